/- slices.SortStableFunc at an owned row of parcels whose texts lie below the row. -/
import Derived.Test.YtlcpackmoolngaaStabPar
import Derived.Test.YtlcpackmoolngaaErase
namespace Go.Proofs.Ytlcpackmoolngaa.Ss
open Go.ChangeShapes Go.WideShapes Go.ChangeAt Go.Shelf Go.RowKit Go.Lib Go.Sort Go.Proofs.Ytlcpackmoolngaa.Stb Go.Proofs.Ytlcpackmoolngaa.Bu Go.Proofs.Ytlcpackmoolngaa.Mem Go.Proofs.Ytlcpackmoolngaa.Op Go.Proofs.Ytlcpackmoolngaa.Sm
set_option linter.unusedVariables false
set_option linter.unusedSimpArgs false
/-- an owned row of parcels, their texts in blocks below B -/
def OverParcs (w : World) (base lo B : Nat) (A : Option Addr) (c : Nat) (ps : List Parc) : Prop :=
  ∃ xs, w.ownsRow base 52 5 (.slice A ps.length c) ps.length xs ∧ ∀ i p, ps[i]? = some p → ∃ a c', (xs.drop (i * 5)).take 5 = parcL p a c' ∧ (∀ ad, a = some ad → lo ≤ ad.block) ∧ (a = none → c' = 0) ∧ p.bs.length ≤ c' ∧ p.bs.length ≤ 140737488351232 ∧ Rd w B 1 a p.bs.length (bytesV p.bs)
/-- what the sort leaves reads as parcels, their texts lying elsewhere -/
theorem parcs_lo {lo : Nat} {w W : World} {g : Nat} (f : Array (PC × Nat)) (h : SWK encP 5 w g 0 f W) (d0 : Array (PC × Nat)) (R : RowK encP 5 w g 0 d0) (hs : f.size = d0.size)
    (hg : lo ≤ g) (htx : ∀ i, i < f.size → (∀ ad, f[i]!.1.2.1 = some ad → lo ≤ ad.block) ∧ (f[i]!.1.2.1 = none → f[i]!.1.2.2 = 0) ∧ f[i]!.1.1.bs.length ≤ f[i]!.1.2.2 ∧ f[i]!.1.1.bs.length ≤ 140737488351232 ∧ Rd W W.heap.size 1 f[i]!.1.2.1 f[i]!.1.1.bs.length (bytesV f[i]!.1.1.bs)) :
    ParcsLo W lo W.heap.size (some ⟨g, 0, none⟩) (f.toList.map fun x => x.1.1) := by
  have hH := h.holds R.hblk R.hH hs
  have hlt := h.lt R.hblk
  refine ⟨(flatK encP 5 f).toList, ⟨by simp, fun _ => ⟨g, 0, rfl, hlt, fun j u hu => ?_⟩⟩, fun a e => by injection e with e; subst e; exact hg, fun i p hp => ?_⟩
  · have hj : j < (flatK encP 5 f).size := by
      have := (List.getElem?_eq_some_iff.1 hu).1
      simpa using this
    rw [(hH j hj).1, ← hu, getElem!_pos (flatK encP 5 f) j hj, Array.getElem?_toList, Array.getElem?_eq_getElem hj]
    rfl
  · have hi : i < f.size := by
      have := (List.getElem?_eq_some_iff.1 hp).1
      simpa using this
    have hpe : f[i]!.1.1 = p := by
      rw [List.getElem?_map, Array.getElem?_toList, Array.getElem?_eq_getElem hi] at hp
      injection hp with hp
      rw [getElem!_pos f i hi]
      exact hp
    obtain ⟨t0, t1, t2, t3, t4⟩ := htx i hi
    rw [hpe] at t2 t3 t4
    refine ⟨_, _, ?_, t0, t1, t2, t3, t4⟩
    rw [← hpe]
    show _ = encP f[i]!
    refine List.ext_getElem? fun q => ?_
    by_cases hq : q < 5
    · have hb : i * 5 + q < f.size * 5 := by omega
      rw [List.getElem?_take, if_pos hq, List.getElem?_drop, Array.getElem?_toList, Array.getElem?_eq_getElem (by simpa using hb)]
      have h1 := get_flatK encP 5 f (i * 5 + q) hb
      rw [getElem!_pos (flatK encP 5 f) (i * 5 + q) (by simpa using hb), show (i * 5 + q) / 5 = i by omega, show (i * 5 + q) % 5 = q by omega] at h1
      rw [h1, List.getElem?_eq_getElem (show q < (encP f[i]!).length from hq)]
      exact congrArg some (getElem!_pos (encP f[i]!) q hq)
    · rw [List.getElem?_eq_none (by simp; omega), List.getElem?_eq_none (by show (encP f[i]!).length ≤ q; exact Nat.le_of_not_lt hq)]
theorem swk_grown {w W : World} {g : Nat} {f : Array (PC × Nat)} (h : SWK encP 5 w g 0 f W) : w.grownBy W (some g) := by
  obtain ⟨n, os, rfl⟩ := h
  refine ⟨rfl, rfl, rfl, by simp [sortWorldK, grow, putRowK, putRow, mapBlock, Sort.ahead], fun k hk hne => ?_⟩
  unfold sortWorldK
  rw [heap_grow_old _ _ (by rw [size_putRowK]; exact hk)]
  have : g ≠ k := fun e => hne (by rw [e])
  simp [putRowK, putRow, mapBlock, Sort.ahead, Array.getElem?_modify, this]
theorem grown_cells {w w' : World} {row : Option Nat} (hg : w.grownBy w' row) {b : Nat} (o : Nat) (hb : b < w.heap.size) (hne : some b ≠ row) : w'.cell? ⟨b, o, none⟩ = w.cell? ⟨b, o, none⟩ := World.cell?_of_block (hg.block b hb hne)
theorem apart_symm {a b : Option Nat} (h : a = none ∨ a ≠ b) : b = none ∨ b ≠ a := by
  rcases h with rfl | h
  · cases b with
    | none => exact .inl rfl
    | some x => exact .inr (by simp)
  · exact .inr fun e => h e.symm
theorem below_grows {w w' : World} (h : Below w.heap.size w w') : w.grownBy w' none := ⟨h.os, h.tape, h.output, h.size, fun g hg _ => h.block g hg⟩
set_option maxRecDepth 100000 in
theorem sortQ_any {w : World} {base c lo B : Nat} {A : Option Addr} {ps : List Parc} (h : OverParcs w base lo B A c ps) (hBb : B ≤ base) (hlo : lo ≤ base) (hsz : ps.length < 1152921504606846976) :
    Calls Try.prog 28 #[.slice A ps.length c, .func (.func 29) #[] #[]] w fun e w' => e = .returned (.tuple #[]) ∧ ∃ rs, rs.length = ps.length ∧ SortedOf ps rs ∧ ParcsLo w' lo w'.heap.size A rs ∧ w.grownBy w' (Value.slice A ps.length c).ownBlock := by
  obtain ⟨xs, ho, hx⟩ := h
  have ho2 := ho
  obtain ⟨hlen, ⟨h0, hn0⟩ | ⟨g, cap, cur, hv, hbg, hh, _, _, _, ht⟩⟩ := ho2
  · have hps := List.eq_nil_of_length_eq_zero hn0
    subst hps
    injection h0 with h1 h2 h3
    subst h1 h3
    refine (sort_nil _ _).mono ?_
    rintro e w' ⟨rfl, rfl⟩
    exact ⟨rfl, [], rfl, ⟨[], rfl, List.Perm.refl _, List.Pairwise.nil⟩, ⟨[], Rd.nil _ _ _ _, fun a e => (by cases e), fun i p h => by simp at h⟩, ⟨rfl, rfl, rfl, Nat.le_refl _, fun _ _ _ => rfl⟩⟩
  · injection hv with hv _ hcc
    subst hv hcc
    obtain ⟨ys, hl, hy⟩ := pick_list (p := fun i (y : PC) => ps[i]? = some y.1 ∧ (xs.drop (i * 5)).take 5 = parcL y.1 y.2.1 y.2.2 ∧ (∀ ad, y.2.1 = some ad → lo ≤ ad.block) ∧ (y.2.1 = none → y.2.2 = 0) ∧ y.1.bs.length ≤ y.2.2 ∧ y.1.bs.length ≤ 140737488351232 ∧ Rd w B 1 y.2.1 y.1.bs.length (bytesV y.1.bs)) ps.length (fun i hi => by
      obtain ⟨a, c', h1, h2, h3⟩ := hx i ps[i] (List.getElem?_eq_getElem hi)
      exact ⟨(ps[i], a, c'), List.getElem?_eq_getElem hi, h1, h2, h3⟩)
    have R := rowK_in ho ys hl (fun i h => (hy i h).2.1)
    have hss := rowOf_size ys
    have hW : SWK encP 5 w g 0 (rowOf ys) w := ⟨0, #[], by unfold sortWorldK; rw [grow_empty]; exact (putRowK_self encP 5 w g 0 _ R.hH).symm⟩
    have hc := sortStable_any (cap := c) R (by rw [hss, hl]; exact hsz) (fun i hi => by rw [rowOf_get ys (by rwa [hss] at hi)]) hW
    rw [hss, hl] at hc
    refine hc.mono ?_
    rintro e w' ⟨rfl, f, hf, hfs, hp, hso⟩
    have hfs' : f.size = (rowOf ys).size := by rw [hss, hl]; exact hfs
    have hall : ∀ i, i < f.size → ∃ j, ∃ h : j < ys.length, f[i]! = (ys[j], j) := fun i hi =>
      permIn_all (rowOf ys) f 0 ps.length (fun x => ∃ j, ∃ h : j < ys.length, x = (ys[j], j)) (by rw [hss, hl]; exact Nat.le_refl _) hp (fun q _ h2 => ⟨q, by rw [hl]; exact h2, rowOf_get ys (by rw [hl]; exact h2)⟩) i (Nat.zero_le _) (by rw [← hfs]; exact hi)
    have hsz' := swk_size hf
    refine ⟨rfl, _, ?_, ?_, parcs_lo f hf (rowOf ys) R hfs' (Nat.le_trans hlo hbg) (fun i hi => ?_), swk_grown hf⟩
    · simp [hfs]
    · refine ⟨f.toList.map fun x => (x.1.1, x.2), by simp, ?_, ?_⟩
      · have h1 := hp.2.2
        have ef : f.extract 0 ps.length = f := by rw [← hfs]; simp
        have ed : (rowOf ys).extract 0 ps.length = rowOf ys := by rw [← hl, ← hss]; simp
        rw [ef, ed] at h1
        have h2 := h1.map fun x : PC × Nat => (x.1.1, x.2)
        refine h2.trans (List.Perm.of_eq (List.ext_getElem? fun q => ?_))
        by_cases hq : q < ys.length
        · simp [rowOf, hq, (hy q hq).1]
        · simp [rowOf, hq, show ps.length ≤ q by omega]
      · rw [List.pairwise_map, List.pairwise_iff_getElem]
        intro i j hi hj hij
        have hi' : i < f.size := by simpa using hi
        have hj' : j < f.size := by simpa using hj
        have := hso i j (Nat.zero_le _) hij (by rw [← hfs]; exact hj')
        rw [getElem!_pos f i hi', getElem!_pos f j hj'] at this
        exact this
    · obtain ⟨j, hj, e⟩ := hall i hi
      obtain ⟨_, _, t0, t1, t2, t4, hr⟩ := hy j hj
      rw [e]
      refine ⟨t0, t1, t2, t4, hr.1, fun hn0 => ?_⟩
      obtain ⟨b, o, eA, hb, hcell⟩ := hr.2 hn0
      have hgl := R.hblk
      refine ⟨b, o, eA, by omega, fun q u hu => ?_⟩
      rw [swk_cell hf (by omega) (by omega)]
      exact hcell q u hu

theorem OverParcs.nil (w : World) (base lo B : Nat) : OverParcs w base lo B none 0 [] := ⟨[], World.ownsRow_nil _ _ _ _, fun i p h => by simp at h⟩
/-- a parcel more -/
theorem OverParcs.snoc {w w' : World} {base lo B : Nat} {A A' : Option Addr} {c c' : Nat} {ps : List Parc} {p : Parc} {a : Option Addr} {ca : Nat} {xs : List Value} (hxl : xs.length = ps.length * 5)
    (hx : ∀ i p, ps[i]? = some p → ∃ a c', (xs.drop (i * 5)).take 5 = parcL p a c' ∧ (∀ ad, a = some ad → lo ≤ ad.block) ∧ (a = none → c' = 0) ∧ p.bs.length ≤ c' ∧ p.bs.length ≤ 140737488351232 ∧ Rd w B 1 a p.bs.length (bytesV p.bs))
    (hp : (∀ ad, a = some ad → lo ≤ ad.block) ∧ (a = none → ca = 0) ∧ p.bs.length ≤ ca ∧ p.bs.length ≤ 140737488351232 ∧ Rd w B 1 a p.bs.length (bytesV p.bs)) (hk : ∀ b o, b < B → w'.cell? ⟨b, o, none⟩ = w.cell? ⟨b, o, none⟩)
    (ho' : w'.ownsRow base 52 5 (.slice A' (ps.length + 1) c') (ps.length + 1) (xs ++ parcL p a ca)) : OverParcs w' base lo B A' c' (ps ++ [p]) := by
  refine ⟨xs ++ parcL p a ca, by rw [List.length_append]; exact ho', fun i m hi => ?_⟩
  rcases Nat.lt_or_ge i ps.length with h | h
  · rw [List.getElem?_append_left h] at hi
    obtain ⟨a', c1, h1, h0, h2, h3, h4, h5⟩ := hx i m hi
    refine ⟨a', c1, ?_, h0, h2, h3, h4, h5.keep hk⟩
    rw [List.drop_append_of_le_length (by omega), List.take_append_of_le_length (by rw [List.length_drop]; omega)]
    exact h1
  · have hi0 : i = ps.length := by
      have := (List.getElem?_eq_some_iff.1 hi).1
      simp at this
      omega
    subst hi0
    rw [List.getElem?_append_right (Nat.le_refl _), Nat.sub_self] at hi
    obtain rfl : p = m := by simpa using hi
    refine ⟨a, ca, ?_, hp.1, hp.2.1, hp.2.2.1, hp.2.2.2.1, hp.2.2.2.2.keep hk⟩
    rw [List.drop_append, List.drop_of_length_le (by omega), List.nil_append, show ps.length * 5 - xs.length = 0 by omega, List.drop_zero]
    rfl

/-- another row has grown -/
theorem OverParcs.kept {w w' : World} {base lo B : Nat} {A : Option Addr} {c : Nat} {ps : List Parc} {row : Option Nat} (h : OverParcs w base lo B A c ps) (hg : w.grownBy w' row) (hne : (Value.slice A ps.length c).ownBlock = none ∨ (Value.slice A ps.length c).ownBlock ≠ row) (hk : ∀ b o, b < B → w'.cell? ⟨b, o, none⟩ = w.cell? ⟨b, o, none⟩) : OverParcs w' base lo B A c ps := by
  obtain ⟨xs, ho, hx⟩ := h
  have ho' : w'.ownsRow base 52 5 (.slice A ps.length c) ps.length xs := by
    obtain ⟨hl, h | ⟨b, cap, cur, hv, hb, hh, hc⟩⟩ := ho
    · exact ⟨hl, .inl h⟩
    · have hlt : b < w.heap.size := (Array.getElem?_eq_some_iff.1 hh).1
      have hob : (Value.slice A ps.length c).ownBlock = some b := by rw [hv]; rfl
      rw [hob] at hne
      rcases hne with h | h
      · cases h
      · exact ⟨hl, .inr ⟨b, cap, cur, hv, hb, (hg.block b hlt h).trans hh, hc⟩⟩
  refine ⟨xs, ho', fun i p hp => ?_⟩
  obtain ⟨a, c1, h1, h0, h2, h3, h4, h5⟩ := hx i p hp
  exact ⟨a, c1, h1, h0, h2, h3, h4, h5.keep hk⟩
/-- how it reads -/
theorem OverParcs.lo {w : World} {base lo B : Nat} {A : Option Addr} {c : Nat} {ps : List Parc} (h : OverParcs w base lo B A c ps) (hlo : lo ≤ base) (hB : B ≤ w.heap.size) : ParcsLo w lo w.heap.size A ps := by
  obtain ⟨xs, ho, hx⟩ := h
  refine ⟨xs, Rd.of_own ho, fun a e => Nat.le_trans hlo (own_lo ho a e), fun i p hp => ?_⟩
  obtain ⟨a, c1, h1, h0, h2, h3, h4, h5⟩ := hx i p hp
  exact ⟨a, c1, h1, h0, h2, h3, h4, h5.more hB⟩
theorem ParcsLo.one {w : World} {lo B : Nat} {A : Option Addr} {ps : List Parc} (h : ParcsLo w lo B A ps) {i : Nat} {p : Parc} (hp : ps[i]? = some p) : ∃ b o a c, A = some ⟨b, o, none⟩ ∧ b < B ∧ w.cell? ⟨b, o + i * 5, none⟩ = some (.int .i64 p.f) ∧ w.cell? ⟨b, o + i * 5 + 1, none⟩ = some (.int .i64 p.t) ∧
    w.cell? ⟨b, o + i * 5 + 2, none⟩ = some (.int .i64 p.d) ∧ w.cell? ⟨b, o + i * 5 + 3, none⟩ = some (.int .i64 p.s) ∧ w.cell? ⟨b, o + i * 5 + 4, none⟩ = some (.slice a p.bs.length c) ∧ (∀ ad, a = some ad → lo ≤ ad.block) ∧ (a = none → c = 0) ∧ p.bs.length ≤ c ∧ p.bs.length ≤ 140737488351232 ∧ Rd w B 1 a p.bs.length (bytesV p.bs) := by
  obtain ⟨xs, hr, _, hx⟩ := h
  obtain ⟨a, c, h1, h0, h2, h3, h4, h5⟩ := hx i p hp
  have hi : i < ps.length := (List.getElem?_eq_some_iff.1 hp).1
  obtain ⟨b, o, e, hb, hc⟩ := hr.2 (by omega)
  have hg : ∀ j v, j < 5 → (parcL p a c)[j]? = some v → w.cell? ⟨b, o + i * 5 + j, none⟩ = some v := fun j v hj hv => by
    rw [← h1, List.getElem?_take, if_pos hj, List.getElem?_drop] at hv
    have := hc _ _ hv
    rwa [← Nat.add_assoc] at this
  exact ⟨b, o, a, c, e, hb, hg 0 _ (by omega) rfl, hg 1 _ (by omega) rfl, hg 2 _ (by omega) rfl, hg 3 _ (by omega) rfl, hg 4 _ (by omega) rfl, h0, h2, h3, h4, h5⟩
end Go.Proofs.Ytlcpackmoolngaa.Ss
