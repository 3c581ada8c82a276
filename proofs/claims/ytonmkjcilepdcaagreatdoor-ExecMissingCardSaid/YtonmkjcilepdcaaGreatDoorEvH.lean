import Derived.Test.YtonmkjcilepdcaaGreatDoorEvI
/- The evaluator: an operation, a call, a code (regions in their order). -/
noncomputable section
namespace Go.Proofs.YtonmkjcilepdcaaGreatDoor
open Go.RowKit
set_option maxRecDepth 20000
set_option maxHeartbeats 4000000

theorem St.reC {C : Ctx} {L : Hp} {w : World} (h : St C L w) (n : Nat) : St ⟨C.P, n, C.FB, C.w0⟩ L w := ⟨h.os, h.tape, h.output, h.size, h.fixed, h.fb, h.own⟩
def or2 {α : Type} (a b : Option α) : Option α := match a with | some x => some x | none => b
theorem or2_some {α : Type} {a b : Option α} {x : α} (h : or2 a b = some x) : a = some x ∨ b = some x := by
  cases a with
  | none => exact .inr h
  | some y => exact .inl h
def keepH (H : SH) (r : Option SV) : Option (SV × SH) := r.map fun v => (v, H)
theorem keepH_some {H : SH} {r : Option SV} {v : SV} {H2 : SH} (h : keepH H r = some (v, H2)) : r = some v ∧ H2 = H := by
  unfold keepH at h
  obtain ⟨x, hx, h2⟩ := Option.map_eq_some_iff.1 h
  cases h2
  exact ⟨hx, rfl⟩
def noVal (r : Option SH) : Option (SV × SH) := r.map fun H => (.k undef, H)
theorem noVal_some {r : Option SH} {v : SV} {H2 : SH} (h : noVal r = some (v, H2)) : r = some H2 ∧ v = .k undef := by
  unfold noVal at h
  obtain ⟨x, hx, h2⟩ := Option.map_eq_some_iff.1 h
  cases h2
  exact ⟨hx, rfl⟩
/-- An operation that is no call of a function of the program. -/
def opStep (P : Program) (E : SE) (H : SH) (o : Oper) : Option (SV × SH) :=
  match o.op with
  | .move x => keepH H (opMove E x)
  | .assign x => keepH H (opMove E x)
  | .pick c x y => keepH H (opPick E c x y)
  | .extract x i => keepH H (or2 (opExtract E x i) (opPlain P E o))
  | .load t x => keepH H (opLoad P E H t x)
  | .store t x y => noVal (opStore P E H t x y)
  | .alloc t => opAlloc P H t
  | .box t x => opBox E H t x
  | .build t parts => keepH H (opBuild P E t parts.toList)
  | .buildSlice t len parts => opBuildSlice P E H t len parts.toList
  | .fieldAddr t x i => keepH H (or2 (opFieldAddr P E t x i) (opPlain P E o))
  | .indexAddr t x y => keepH H (or2 (opIndexAddr P E t x y) (opPlain P E o))
  | .slice t x lo hi mx => keepH H (or2 (opSlice P E H t x lo hi mx) (opPlain P E o))
  | .nilCheck x => keepH H (or2 (opNilCheck E x) (opPlain P E o))
  | .makeInterface t x => keepH H (opMakeIface P E t x)
  | .makeFunc f first cap => keepH H (opMakeFunc E f first.toList cap.toList)
  | .makeMap _ r => opMakeMap E H r
  | .makeSlice t l c => opMakeSlice P E H t l c
  | .lookup t x y ok => keepH H (opLookup P E H t x y ok)
  | .mapUpdate t m x y => noVal (opMapUpdate P E H t m x y)
  | .insert t m x y => noVal (opMapUpdate P E H t m x y)
  | .binOp op t x y _ => keepH H (or2 (opEqNil P E op t x y) (opPlain P E o))
  | .call ⟨.builtin .append, args, ats⟩ => match args.toList, ats.toList with
    | [x, y], [t, t'] => if Nat.beq t t' then or2 (keepH H (opAppendNil P E H t x y)) (opAppend P E H t x y) else none
    | _, _ => none
  | .call ⟨.builtin .copy, args, ats⟩ => match args.toList, ats.toList with
    | [x, y], [t, _] => opCopy P E H t x y
    | _, _ => none
  | .call ⟨.builtin .len, args, ats⟩ => match args.toList, ats.toList with
    | [x], [t] => keepH H (or2 (opLen P E H t x) (opPlain P E o))
    | _, _ => none
  | .sliceToArrayPointer t x => keepH H (opArrayPtr P E t x)
  | _ => keepH H (opPlain P E o)
theorem opStep_ok {C : Ctx} {E : SE} {H H2 : SH} {o : Oper} {v : SV} (h : opStep C.P E H o = some (v, H2)) : OpOk C E H o v H2 := by
  unfold opStep at h
  split at h
  case h_1 x hop => obtain ⟨h', rfl⟩ := keepH_some h; exact opMove_ok (.inl hop) h'
  case h_2 x hop => obtain ⟨h', rfl⟩ := keepH_some h; exact opMove_ok (.inr hop) h'
  case h_3 c x y hop => obtain ⟨h', rfl⟩ := keepH_some h; exact opPick_ok hop h'
  case h_4 x i hop =>
    obtain ⟨h', rfl⟩ := keepH_some h
    rcases or2_some h' with h | h
    · exact opExtract_ok hop h
    · exact opPlain_ok h
  case h_5 t x hop => obtain ⟨h', rfl⟩ := keepH_some h; exact opLoad_ok hop h'
  case h_6 t x y hop => obtain ⟨h', rfl⟩ := noVal_some h; exact opStore_ok hop h'
  case h_7 t hop => exact opAlloc_ok hop h
  case h_8 t x hop => exact opBox_ok hop h
  case h_9 t parts hop => obtain ⟨h', rfl⟩ := keepH_some h; exact opBuild_ok hop h'
  case h_10 t len parts hop => exact opBuildSlice_ok hop h
  case h_11 t x i hop =>
    obtain ⟨h', rfl⟩ := keepH_some h
    rcases or2_some h' with h | h
    · exact opFieldAddr_ok hop h
    · exact opPlain_ok h
  case h_12 t x y hop =>
    obtain ⟨h', rfl⟩ := keepH_some h
    rcases or2_some h' with h | h
    · exact opIndexAddr_ok hop h
    · exact opPlain_ok h
  case h_13 t x lo hi mx hop =>
    obtain ⟨h', rfl⟩ := keepH_some h
    rcases or2_some h' with h | h
    · exact opSlice_ok hop h
    · exact opPlain_ok h
  case h_14 x hop =>
    obtain ⟨h', rfl⟩ := keepH_some h
    rcases or2_some h' with h | h
    · exact opNilCheck_ok hop h
    · exact opPlain_ok h
  case h_15 t x hop => obtain ⟨h', rfl⟩ := keepH_some h; exact opMakeIface_ok hop h'
  case h_16 f first cap hop => obtain ⟨h', rfl⟩ := keepH_some h; exact opMakeFunc_ok hop h'
  case h_17 t r hop => exact opMakeMap_ok hop h
  case h_18 t l c hop => exact opMakeSlice_ok hop h
  case h_19 t x y ok hop => obtain ⟨h', rfl⟩ := keepH_some h; exact opLookup_ok hop h'
  case h_20 t m x y hop => obtain ⟨h', rfl⟩ := noVal_some h; exact opMapUpdate_ok (.inl hop) h'
  case h_21 t m x y hop => obtain ⟨h', rfl⟩ := noVal_some h; exact opMapUpdate_ok (.inr hop) h'
  case h_22 op t x y u hop =>
    obtain ⟨h', rfl⟩ := keepH_some h
    rcases or2_some h' with h | h
    · exact opEqNil_ok hop h
    · exact opPlain_ok h
  case h_23 args ats hop =>
    split at h
    · rename_i x y t t' ha ht
      split at h
      · rename_i ht2
        rw [Nat.beq_eq] at ht2
        subst ht2
        rcases or2_some h with h | h
        · obtain ⟨h', rfl⟩ := keepH_some h
          exact opAppendNil_ok hop ha ht h'
        · exact opAppend_ok hop ha ht h
      · cases h
    · cases h
  case h_24 args ats hop =>
    split at h
    · rename_i x y t t' ha ht
      exact opCopy_ok hop ha ht h
    · cases h
  case h_25 args ats hop =>
    split at h
    · rename_i x t ha ht
      obtain ⟨h', rfl⟩ := keepH_some h
      rcases or2_some h' with h | h
      · exact opLen_ok hop ha ht h
      · exact opPlain_ok h
    · cases h
  case h_26 t x hop => obtain ⟨h', rfl⟩ := keepH_some h; exact opArrayPtr_ok hop h'
  case h_27 => obtain ⟨h', rfl⟩ := keepH_some h; exact opPlain_ok h'
/-! ### results -/
def retS : List SV → SV
  | [v] => v
  | vs => .tup vs
theorem retS_den (σ : Nm) (vs : List SV) : den σ (retS vs) = retOf (denL σ vs) := by
  match vs with
  | [] => simp [retS, den, denL, retOf]
  | [v] => simp [retS, denL, retOf]
  | v :: u :: vs => simp [retS, den, denL, retOf]
def resS1 (P : Program) (E : SE) (H : SH) : ResultVar → Option SV
  | .tmp t => E.get t
  | .cell a t => match E.get a, P.underlying t with
    | some (.ptr n 0), some d => match getL H n with
      | some (.cells cs _) => if isAggB d then (match szOf P t with | some k => if Nat.beq k cs.length then some (mkAgg cs) else none | none => none) else cs[0]?
      | _ => none
    | _, _ => none
def resS (P : Program) (E : SE) (H : SH) : List ResultVar → Option (List SV)
  | [] => some []
  | r :: rs => match resS1 P E H r, resS P E H rs with
    | some v, some vs => some (v :: vs)
    | _, _ => none
theorem resS1_res {P : Program} {σ : Nm} {E : SE} {H : SH} {M : Hp} {r : ResultVar} {v : SV} (h : resS1 P E H r = some v) : Res1 P (denE σ E) (denH σ H ++ M) r (den σ v) := by
  cases r with
  | tmp t =>
    refine .tmp ?_
    simp only [resS1] at h
    rw [denE_get, h]; rfl
  | cell a t =>
    simp only [resS1, getL_eq] at h
    split at h
    · rename_i n d ha hu
      have ha' : (denE σ E).get a = some (.pointer (some ⟨(σ n).1, 0, none⟩)) := by rw [denE_get, ha]; simp [den]
      split at h
      · rename_i cs e ho
        have hq : (denH σ H ++ M)[n]? = some (blk (σ n).1 (.cells (denL σ cs).toArray e (0, 0))) := by
          rw [List.getElem?_append_left (by rw [denH_length]; exact (List.getElem?_eq_some_iff.1 ho).1), denH_get, ho]; rfl
        cases hd : isAggB d with
        | true =>
          rw [hd, if_pos rfl] at h
          split at h
          · rename_i k hk
            split at h
            · rename_i hkl
              rw [Nat.beq_eq] at hkl
              cases h
              rw [mkAgg_den]
              refine .agg n ha' hu (by cases d <;> simp_all [isAggB]) hq ?_
              rw [hk, hkl]; simp
            · cases h
          · cases h
        | false =>
          rw [hd, if_neg (by decide)] at h
          refine .one n ha' hu hd hq ?_
          rw [List.getElem?_toArray, denL_get, h]; rfl
      · cases h
    · cases h
theorem resS_res {P : Program} {σ : Nm} {E : SE} {H : SH} {M : Hp} : ∀ {rs : List ResultVar} {vs : List SV}, resS P E H rs = some vs → Ress P (denE σ E) (denH σ H ++ M) rs (denL σ vs)
  | [], vs, h => by simp only [resS, Option.some.injEq] at h; subst h; rw [denL]; exact .nil
  | r :: rs, vs, h => by
    simp only [resS] at h
    split at h
    · rename_i v us h1 h2
      cases h
      rw [denL]
      exact .cons (resS1_res h1) (resS_res h2)
    · cases h
end Go.Proofs.YtonmkjcilepdcaaGreatDoor
end
