/- '==' between a value and itself, of a type that is made of integers and bools alone, at whatever depth: it says true. And rows of cells told by a function. -/
import Derived.Test.YtlcpackmoolngaaMem
import Derived.Deep.MidRow
import Derived.Laws.StructEq
namespace Go.Proofs.Ytlcpackmoolngaa.Flat
open Go.RowKit Go.Proofs.Ytlcpackmoolngaa.Mem

def eqFieldsOK (P : Program) (L : TypeId → Option (List Bool)) : Nat → List Field → Option (List Bool)
  | _, [] => some []
  | off, f :: fs =>
    match L f.type with
    | none => none
    | some l =>
      if f.offset = off ∧ f.name ≠ "_" ∧ (P.info? f.type).map (·.size) = some l.length then
        match eqFieldsOK P L (off + l.length) fs with
        | none => none
        | some r => some (l ++ r)
      else none

/-- of each cell: an integer (true) or a bool (false); none where the type holds anything else -/
def eqOK (P : Program) : Nat → TypeId → Option (List Bool)
  | 0, _ => none
  | d + 1, t =>
    match P.underlying t with
    | some .bool => some [false]
    | some (.int _) => some [true]
    | some (.struct fs) => if P.stoodInHeld t = false then eqFieldsOK P (eqOK P d) 0 fs.toList else none
    | some (.array n e) =>
      match eqOK P d e with
      | none => none
      | some l => if (P.info? e).map (·.size) = some l.length then some (List.replicate n l).flatten else none
    | _ => none

def Typed : List Bool → List Value → Prop
  | [], [] => True
  | b :: bs, v :: vs => (match b with | true => ∃ k n, v = Value.int k n | false => ∃ c, v = Value.bool c) ∧ Typed bs vs
  | _, _ => False

theorem Typed.length : ∀ {bs : List Bool} {vs : List Value}, Typed bs vs → vs.length = bs.length
  | [], [], _ => rfl
  | _ :: _, _ :: _, h => by simp [Typed.length h.2]
  | [], _ :: _, h => h.elim
  | _ :: _, [], h => h.elim

theorem Typed.split : ∀ {a b : List Bool} {vs : List Value}, Typed (a ++ b) vs → Typed a (vs.take a.length) ∧ Typed b (vs.drop a.length)
  | [], _, _, h => ⟨by simp [Typed], h⟩
  | _ :: a, b, [], h => h.elim
  | x :: a, b, v :: vs, h => by
    obtain ⟨h1, h2⟩ := h
    obtain ⟨h3, h4⟩ := Typed.split (a := a) h2
    exact ⟨⟨h1, by simpa using h3⟩, by simpa using h4⟩

section
variable {P : Program}

theorem run_isAgg {t : TypeId} {d : TypeDesc} (hu : P.underlying t = some d) (w : World) : (isAgg t).run P w = .ok d.isRow w := by
  unfold isAgg
  rw [Sem.run_bind, run_underlying hu w]
  cases d <;> rfl

theorem run_part_row {t : TypeId} {d : TypeDesc} (hu : P.underlying t = some d) (hd : d.isRow = true) {n : Nat} (hi : (P.info? t).map (·.size) = some n) (cs : Array Value) (off : Nat) (w : World) :
    (part t cs off).run P w = .ok (.agg (cs.extract off (off + n))) w := by
  obtain ⟨i, hq, hs⟩ := Option.map_eq_some_iff.1 hi
  unfold part
  simp [Sem.run_bind, run_isAgg hu, hd, sizeOf, typeInfo, hq, hs]

theorem run_part_one {t : TypeId} {d : TypeDesc} (hu : P.underlying t = some d) (hd : d.isRow = false) (cs : Array Value) (off : Nat) (v : Value) (hv : cs[off]? = some v) (w : World) :
    (part t cs off).run P w = .ok v w := by
  unfold part
  simp [Sem.run_bind, run_isAgg hu, hd, hv]

def Refl (P : Program) (d : Nat) (t : TypeId) (ls : List Bool) : Prop :=
  ∀ (xs : Array Value) (off : Nat), Typed ls ((xs.toList.drop off).take ls.length) → (P.info? t).map (·.size) = some ls.length → ∀ w : World, ∃ v, (part t xs off).run P w = .ok v w ∧ ∀ d', d ≤ d' → (Op.equalIn d' t v v).run P w = .ok true w

theorem fields_refl {d : Nat} {L : TypeId → Option (List Bool)} (ih : ∀ t ls, L t = some ls → Refl P d t ls) (xs : Array Value) {d' : Nat} (hd : d ≤ d') (w : World) :
    ∀ (fs : List Field) (off : Nat) (ls : List Bool), eqFieldsOK P L off fs = some ls → Typed ls ((xs.toList.drop off).take ls.length) → (Op.eqFields d' xs xs fs).run P w = .ok true w
  | [], _, _, _, _ => by simp [Op.eqFields]
  | f :: fs, off, ls, h, ht => by
    unfold eqFieldsOK at h
    cases hL : L f.type with
    | none => simp [hL] at h
    | some l =>
      simp only [hL] at h
      split at h
      · rename_i hc
        obtain ⟨ho, hn, hs⟩ := hc
        cases hr : eqFieldsOK P L (off + l.length) fs with
        | none => simp [hr] at h
        | some r =>
          simp only [hr, Option.some.injEq] at h
          subst h
          obtain ⟨t1, t2⟩ := ht.split
          have e1 : ((xs.toList.drop off).take (l ++ r).length).take l.length = (xs.toList.drop off).take l.length := by
            rw [List.take_take, List.length_append, Nat.min_eq_left (by omega)]
          have e2 : ((xs.toList.drop off).take (l ++ r).length).drop l.length = (xs.toList.drop (off + l.length)).take r.length := by
            rw [List.length_append, List.drop_take, List.drop_drop]
            congr 1; omega
          rw [e1] at t1
          rw [e2] at t2
          obtain ⟨v, hv, he⟩ := ih _ _ hL xs off t1 hs w
          unfold Op.eqFields
          rw [if_pos hn, ho]
          simp only [Sem.run_bind, hv, Result.andThen_ok, he d' hd, Bool.not_true, Bool.false_eq_true, if_false]
          exact fields_refl ih xs hd w fs _ _ hr t2
      · cases h

theorem array_refl {d e : Nat} {l : List Bool} (ih : Refl P d e l) (hs : (P.info? e).map (·.size) = some l.length) (xs : Array Value) {d' : Nat} (hd : d ≤ d') (w : World) (n : Nat) :
    ∀ (m k : Nat), k + m ≤ n → Typed (List.replicate m l).flatten ((xs.toList.drop (k * l.length)).take (m * l.length)) →
      ∀ b : Option Bool × Unit, b.1 = none → (forIn (m := Sem) (List.range' k m) b (fun i _ => do
        let a ← part e xs (i * l.length)
        let c ← part e xs (i * l.length)
        let r ← Op.equalIn d' e a c
        if (!r) = true then pure (ForInStep.done (some false, ())) else pure (ForInStep.yield (none, ())))).run P w = .ok (none, ()) w
  | 0, k, _, _, b, hb => by
    obtain ⟨b1, b2⟩ := b
    simp only at hb
    subst hb
    simp
  | m + 1, k, hk, ht, b, hb => by
    rw [List.replicate_succ, List.flatten_cons] at ht
    obtain ⟨t1, t2⟩ := ht.split
    have e1 : ((xs.toList.drop (k * l.length)).take ((m + 1) * l.length)).take l.length = (xs.toList.drop (k * l.length)).take l.length := by
      rw [List.take_take, Nat.succ_mul, Nat.min_eq_left (by omega)]
    have e2 : ((xs.toList.drop (k * l.length)).take ((m + 1) * l.length)).drop l.length = (xs.toList.drop ((k + 1) * l.length)).take (m * l.length) := by
      rw [List.drop_take, List.drop_drop, Nat.succ_mul, Nat.succ_mul]
      congr 1; omega
    rw [e1] at t1
    rw [e2] at t2
    obtain ⟨v, hv, he⟩ := ih xs (k * l.length) t1 hs w
    rw [List.range'_succ, List.forIn_cons]
    simp only [Sem.run_bind, hv, Result.andThen_ok, he d' hd, Bool.not_true, Bool.false_eq_true, if_false, Sem.run_pure]
    exact array_refl ih hs xs hd w n m (k + 1) (by omega) t2 _ rfl

theorem typed_flatten_length (n : Nat) (l : List Bool) : ((List.replicate n l).flatten).length = n * l.length := by simp

theorem refl : ∀ (d : Nat) (t : TypeId) (ls : List Bool), eqOK P d t = some ls → Refl P d t ls
  | 0, _, _, h => by simp [eqOK] at h
  | d + 1, t, ls, h => by
    intro xs off ht hs w
    unfold eqOK at h
    cases hu : P.underlying t with
    | none => simp [hu] at h
    | some u =>
      rw [hu] at h
      cases u with
      | bool =>
        simp only [Option.some.injEq] at h
        subst h
        obtain ⟨v, hv⟩ : ∃ v, xs[off]? = some v := by
          cases hx : xs[off]? with
          | some v => exact ⟨v, rfl⟩
          | none =>
            have := ht.length
            simp at this hx
            omega
        have hvt : ∃ c, v = Value.bool c := by
          have e : (xs.toList.drop off).take 1 = [v] := by
            have hlt : off < xs.toList.length := by
              have := (Array.getElem?_eq_some_iff.1 hv).1
              simpa using this
            rw [List.drop_eq_getElem_cons hlt, List.take_succ_cons, List.take_zero]
            congr 1
            have := (Array.getElem?_eq_some_iff.1 hv).2
            simpa using this
          rw [show [false].length = 1 from rfl, e] at ht
          exact ht.1
        obtain ⟨c, rfl⟩ := hvt
        refine ⟨_, run_part_one hu rfl xs off _ hv w, fun d' hd => ?_⟩
        obtain ⟨d'', rfl⟩ : ∃ d'', d' = d'' + 1 := ⟨d' - 1, by omega⟩
        rw [run_equalIn_bool' w d'' t c c hu]
        simp
      | int k =>
        simp only [Option.some.injEq] at h
        subst h
        obtain ⟨v, hv⟩ : ∃ v, xs[off]? = some v := by
          cases hx : xs[off]? with
          | some v => exact ⟨v, rfl⟩
          | none =>
            have := ht.length
            simp at this hx
            omega
        have hvt : ∃ k n, v = Value.int k n := by
          have e : (xs.toList.drop off).take 1 = [v] := by
            have hlt : off < xs.toList.length := by
              have := (Array.getElem?_eq_some_iff.1 hv).1
              simpa using this
            rw [List.drop_eq_getElem_cons hlt, List.take_succ_cons, List.take_zero]
            congr 1
            have := (Array.getElem?_eq_some_iff.1 hv).2
            simpa using this
          rw [show [true].length = 1 from rfl, e] at ht
          exact ht.1
        obtain ⟨k', n, rfl⟩ := hvt
        refine ⟨_, run_part_one hu rfl xs off _ hv w, fun d' hd => ?_⟩
        obtain ⟨d'', rfl⟩ : ∃ d'', d' = d'' + 1 := ⟨d' - 1, by omega⟩
        rw [run_equalIn_int w d'' t k' k n n hu]
        simp
      | struct fs =>
        simp only at h
        split at h
        · rename_i hp
          refine ⟨_, run_part_row hu rfl hs xs off w, fun d' hd => ?_⟩
          obtain ⟨d'', rfl⟩ : ∃ d'', d' = d'' + 1 := ⟨d' - 1, by omega⟩
          have hf : P.underlying t = some (.struct (P.fieldsOf t)) := by simp [Program.fieldsOf, hu]
          rw [run_equalIn_struct w d'' t _ _ hf hp]
          have hff : P.fieldsOf t = fs := by simp [Program.fieldsOf, hu]
          rw [hff]
          refine fields_refl (fun t ls hl => refl d t ls hl) _ (by omega) w _ 0 ls h ?_
          have e : (((xs.extract off (off + ls.length)).toList.drop 0).take ls.length) = (xs.toList.drop off).take ls.length := by
            simp [List.take_take, Array.toList_extract]
          rw [e]; exact ht
        · cases h
      | array n e =>
        simp only at h
        cases hl : eqOK P d e with
        | none => simp [hl] at h
        | some l =>
          simp only [hl] at h
          split at h
          · rename_i hse
            simp only [Option.some.injEq] at h
            subst h
            refine ⟨_, run_part_row hu rfl hs xs off w, fun d' hd => ?_⟩
            obtain ⟨d'', rfl⟩ : ∃ d'', d' = d'' + 1 := ⟨d' - 1, by omega⟩
            obtain ⟨i, hq, hsz⟩ := Option.map_eq_some_iff.1 hse
            have ha := array_refl (d' := d'') (refl d e l hl) hse (xs.extract off (off + (List.replicate n l).flatten.length)) (by omega) w n n 0 (by omega) (by
              have e2 : (((xs.extract off (off + (List.replicate n l).flatten.length)).toList.drop (0 * l.length)).take (n * l.length)) = (xs.toList.drop off).take (List.replicate n l).flatten.length := by
                rw [typed_flatten_length]
                simp [List.take_take, Array.toList_extract]
              rw [e2]; exact ht) (none, ()) rfl
            unfold Op.equalIn
            simp only [Sem.run_bind, run_underlying hu, Result.andThen_ok, sizeOf, typeInfo, run_program, hq, hsz, Sem.run_pure]
            rw [Std.Legacy.Range.forIn_eq_forIn_range']
            rw [show (List.range' [:n].start [:n].size [:n].step) = List.range' 0 n from by simp [Std.Legacy.Range.size]]
            rw [ha]
            rfl
          · cases h
      | _ => simp at h
end

end Go.Proofs.Ytlcpackmoolngaa.Flat
