import Derived.Test.YtlcpackmoolngaaPk10
import Derived.Test.YtlcpackmoolngaaPk6
import Derived.Test.YtlcpackmoolngaaPk2
import Derived.Test.YtlcpackmoolngaaPk4
import Derived.Test.YtlcpackmoolngaaPk0
import Derived.Maps.AppendAt
namespace Go.Proofs.Ytlcpackmoolngaa.Ss
open Go.Shelf Go.RowKit Go.Lib Go.Sort Go.Proofs.Ytlcpackmoolngaa.Stb Go.Proofs.Ytlcpackmoolngaa.Bu
set_option linter.unusedVariables false
set_option maxRecDepth 100000
theorem ins_nil (fv : Value) (w : World) : Calls Try.prog 77 #[.slice none 0 0, .int .i64 0, .int .i64 0, fv] w fun e w' => e = .returned (.tuple #[]) ∧ w' = w := by
  go_enter Try.func77, Try.ntmps77
  go_wp2_with fail
  go_loopw [8] (fun i wr => i = .int .i64 1 ∧ wr = w) (fun _ _ => 0)
  case atStart => exact ⟨rfl, rfl⟩
  case round =>
    obtain ⟨rfl, hw⟩ := hrel
    have hw := hw.symm
    subst hw
    go_wp2_with fail
    go_end0
    exact ⟨rfl, rfl⟩
theorem stab_nil (fv : Value) (w : World) : Calls Try.prog 54 #[.slice none 0 0, .int .i64 0, fv] w fun e w' => e = .returned (.tuple #[]) ∧ w' = w := by
  go_enter Try.func54, Try.ntmps54
  go_wp2_with fail
  go_loopw [7, 8] (fun a b wr => a = .int .i64 0 ∧ b = .int .i64 20 ∧ wr = w) (fun _ _ _ => 0)
  case atStart => exact ⟨rfl, rfl, rfl⟩
  case round =>
    obtain ⟨rfl, rfl, hw⟩ := hrel
    have hw := hw.symm
    subst hw
    go_wp2_with fail
    refine (ins_nil _ _).mono ?_
    rintro e w2 ⟨rfl, hw⟩
    have hw := hw.symm
    subst hw
    go_wp2_with fail
    go_loopw [6, 7, 8, 9] (fun s _ _ _ wr => s = .int .i64 20 ∧ wr = w) (fun _ _ _ _ _ => 0)
    case atStart => exact ⟨rfl, rfl⟩
    case round =>
      obtain ⟨rfl, hw⟩ := hrel
      have hw := hw.symm
      subst hw
      go_wp2_with fail
      go_end0
      exact ⟨rfl, rfl⟩
theorem sort_nil (fv : Value) (w : World) : Calls Try.prog 28 #[.slice none 0 0, fv] w fun e w' => e = .returned (.tuple #[]) ∧ w' = w := by
  go_enter Try.func28, Try.ntmps28
  go_wp2_with fail
  refine (stab_nil _ _).mono ?_
  rintro e w2 ⟨rfl, hw⟩
  have hw := hw.symm
  subst hw
  go_wp2_with fail
  go_end0
  exact ⟨rfl, rfl⟩
end Go.Proofs.Ytlcpackmoolngaa.Ss
namespace Go.Proofs.Ytlcpackmoolngaa.Ss
open Go.ChangeShapes Go.WideShapes Go.ChangeAt Go.Shelf Go.RowKit Go.Lib Go.Sort Go.Proofs.Ytlcpackmoolngaa.Stb Go.Proofs.Ytlcpackmoolngaa.Bu Go.Proofs.Ytlcpackmoolngaa.Mem Go.Proofs.Ytlcpackmoolngaa.Op Go.Proofs.Ytlcpackmoolngaa.Sm
set_option linter.unusedVariables false
set_option linter.unusedSimpArgs false
def rowOf (ys : List PC) : Array (PC × Nat) := ys.zipIdx.toArray
theorem rowOf_size (ys : List PC) : (rowOf ys).size = ys.length := by simp [rowOf]
theorem rowOf_get (ys : List PC) {i : Nat} (h : i < ys.length) : (rowOf ys)[i]! = (ys[i], i) := by
  rw [getElem!_pos _ _ (by rw [rowOf_size]; exact h)]
  simp [rowOf]
theorem rowK_in {w : World} {base g c n : Nat} {xs : List Value} (ho : w.ownsRow base 52 5 (.slice (some ⟨g, 0, none⟩) n c) n xs) (ys : List PC) (hl : ys.length = n)
    (hx : ∀ i (h : i < ys.length), (xs.drop (i * 5)).take 5 = parcL ys[i].1 ys[i].2.1 ys[i].2.2) : RowK encP 5 w g 0 (rowOf ys) := by
  obtain ⟨hlen, ⟨h0, _⟩ | ⟨g', cap, cur, hv, _, hh, _, _, _, ht⟩⟩ := ho
  · injection h0 with h0 _ _
    cases h0
  · injection hv with hv _ _
    injection hv with hv
    injection hv with hv _ _
    subst hv
    refine ⟨fun x => rfl, fun x v hv => ?_, fun j hj => ?_, ?_⟩
    · simp only [encP, parcL, List.mem_cons, List.not_mem_nil, or_false] at hv
      rcases hv with rfl | rfl | rfl | rfl | rfl <;> rfl
    · rw [size_flatK, rowOf_size] at hj
      rw [get_flatK _ _ _ _ (by rw [rowOf_size]; exact hj), Nat.zero_add]
      have hi : j / 5 < ys.length := by omega
      rw [rowOf_get ys hi]
      have hc : w.cell? ⟨g, j, none⟩ = xs[j]? := by
        rw [← ht, List.getElem?_take, if_pos (by omega)]
        simp [World.cell?, hh]
      refine ⟨?_, by simp [World.frozen?, hh]⟩
      rw [hc]
      have e := hx (j / 5) hi
      have e2 : xs[j]? = (parcL ys[j / 5].1 ys[j / 5].2.1 ys[j / 5].2.2)[j % 5]? := by
        rw [← e, List.getElem?_take, if_pos (by omega), List.getElem?_drop, show j / 5 * 5 + j % 5 = j by omega]
      rw [e2]
      have h5 : j % 5 < (parcL ys[j / 5].1 ys[j / 5].2.1 ys[j / 5].2.2).length := Nat.mod_lt _ (by omega)
      show _ = some (encP (ys[j / 5], j / 5))[j % 5]!
      rw [List.getElem?_eq_getElem h5]
      exact congrArg some (getElem!_pos (encP (ys[j / 5], j / 5)) (j % 5) h5).symm
    · by_cases hb : g < w.heap.size
      · exact hb
      · rw [Array.getElem?_eq_none (by omega)] at hh
        cases hh
end Go.Proofs.Ytlcpackmoolngaa.Ss
namespace Go.Proofs.Ytlcpackmoolngaa.Ss
open Go.ChangeShapes Go.WideShapes Go.ChangeAt Go.Shelf Go.RowKit Go.Lib Go.Sort Go.Proofs.Ytlcpackmoolngaa.Stb Go.Proofs.Ytlcpackmoolngaa.Bu Go.Proofs.Ytlcpackmoolngaa.Mem Go.Proofs.Ytlcpackmoolngaa.Op Go.Proofs.Ytlcpackmoolngaa.Sm
set_option linter.unusedVariables false
set_option linter.unusedSimpArgs false
theorem pick_list {β : Type} {p : Nat → β → Prop} : ∀ n, (∀ i, i < n → ∃ y, p i y) → ∃ ys : List β, ys.length = n ∧ ∀ i (h : i < ys.length), p i ys[i]
  | 0, _ => ⟨[], rfl, fun i h => absurd h (by simp)⟩
  | n + 1, h => by
    obtain ⟨ys, hl, hp⟩ := pick_list n (fun i hi => h i (by omega))
    obtain ⟨y, hy⟩ := h n (by omega)
    refine ⟨ys ++ [y], by simp [hl], fun i hi => ?_⟩
    by_cases c : i < ys.length
    · rw [List.getElem_append_left c]
      exact hp i c
    · have e : i = n := by simp at hi; omega
      subst e
      rw [List.getElem_append_right (by omega)]
      simpa [hl] using hy
def SortedOf (ps rs : List Parc) : Prop := ∃ l : List (Parc × Nat), l.map Prod.fst = rs ∧ l.Perm ps.zipIdx ∧ l.Pairwise fun x y => ltT (fun p : Parc => p.d) (fun p => p.s) y x = false
theorem swk_cell {w W : World} {g : Nat} {f : Array (PC × Nat)} (h : SWK encP 5 w g 0 f W) {b o : Nat} (hb : b < w.heap.size) (hne : b ≠ g) : W.cell? ⟨b, o, none⟩ = w.cell? ⟨b, o, none⟩ := by
  obtain ⟨n, os, rfl⟩ := h
  unfold sortWorldK
  rw [cell?_grow _ _ _ (by rw [size_putRowK]; exact hb), cell?_putRowK_other _ _ _ _ _ _ _ hne]
  rfl
theorem swk_size {w W : World} {g : Nat} {f : Array (PC × Nat)} (h : SWK encP 5 w g 0 f W) : w.heap.size ≤ W.heap.size := by
  obtain ⟨n, os, rfl⟩ := h
  unfold sortWorldK
  have h1 : (putRowK encP 5 (Sort.ahead w n) g 0 f).heap.size = w.heap.size := size_putRowK _ _ _ _ _ _
  have h2 : (putRowK encP 5 (Sort.ahead w n) g 0 f).heap.size ≤ (grow (putRowK encP 5 (Sort.ahead w n) g 0 f) os).heap.size := by simp [grow]
  omega
end Go.Proofs.Ytlcpackmoolngaa.Ss
namespace Go.Proofs.Ytlcpackmoolngaa.Ss
open Go.ChangeShapes Go.WideShapes Go.ChangeAt Go.Shelf Go.RowKit Go.Lib Go.Sort Go.Proofs.Ytlcpackmoolngaa.Stb Go.Proofs.Ytlcpackmoolngaa.Bu Go.Proofs.Ytlcpackmoolngaa.Mem Go.Proofs.Ytlcpackmoolngaa.Op Go.Proofs.Ytlcpackmoolngaa.Sm
set_option linter.unusedVariables false
set_option linter.unusedSimpArgs false
def OverParcs (w : World) (base lo B : Nat) (A : Option Addr) (c : Nat) (ps : List Parc) : Prop :=
  ∃ xs, w.ownsRow base 52 5 (.slice A ps.length c) ps.length xs ∧ ∀ i p, ps[i]? = some p → ∃ a c', (xs.drop (i * 5)).take 5 = parcL p a c' ∧ (∀ ad, a = some ad → lo ≤ ad.block) ∧ (a = none → c' = 0) ∧ p.bs.length ≤ c' ∧ p.bs.length ≤ 140737488351232 ∧ Rd w B 1 a p.bs.length (bytesV p.bs)
theorem parcs_lo {lo : Nat} {w W : World} {g : Nat} (f : Array (PC × Nat)) (h : SWK encP 5 w g 0 f W) (d0 : Array (PC × Nat)) (R : RowK encP 5 w g 0 d0) (hs : f.size = d0.size)
    (hg : lo ≤ g) (htx : ∀ i, i < f.size → (∀ ad, f[i]!.1.2.1 = some ad → lo ≤ ad.block) ∧ (f[i]!.1.2.1 = none → f[i]!.1.2.2 = 0) ∧ f[i]!.1.1.bs.length ≤ f[i]!.1.2.2 ∧ f[i]!.1.1.bs.length ≤ 140737488351232 ∧ Rd W W.heap.size 1 f[i]!.1.2.1 f[i]!.1.1.bs.length (bytesV f[i]!.1.1.bs)) :
    ParcsLo W lo W.heap.size (some ⟨g, 0, none⟩) (f.toList.map fun x => x.1.1) := by
  have hH := h.holds R.hblk R.hH hs
  have hlt := h.lt R.hblk
  refine ⟨(flatK encP 5 f).toList, ⟨by simp, fun _ => ⟨g, 0, rfl, hlt, fun j u hu => ?_⟩⟩, fun a e => by injection e with e; subst e; exact hg, fun i p hp => ?_⟩
  · have hj : j < (flatK encP 5 f).size := by
      have := (List.getElem?_eq_some_iff.1 hu).1
      simpa using this
    rw [(hH j hj).1, ← hu, getElem!_pos (flatK encP 5 f) j hj, Array.getElem?_toList, Array.getElem?_eq_getElem hj]
    rfl
  · have hi : i < f.size := by
      have := (List.getElem?_eq_some_iff.1 hp).1
      simpa using this
    have hpe : f[i]!.1.1 = p := by
      rw [List.getElem?_map, Array.getElem?_toList, Array.getElem?_eq_getElem hi] at hp
      injection hp with hp
      rw [getElem!_pos f i hi]
      exact hp
    obtain ⟨t0, t1, t2, t3, t4⟩ := htx i hi
    rw [hpe] at t2 t3 t4
    refine ⟨_, _, ?_, t0, t1, t2, t3, t4⟩
    rw [← hpe]
    show _ = encP f[i]!
    refine List.ext_getElem? fun q => ?_
    by_cases hq : q < 5
    · have hb : i * 5 + q < f.size * 5 := by omega
      rw [List.getElem?_take, if_pos hq, List.getElem?_drop, Array.getElem?_toList, Array.getElem?_eq_getElem (by simpa using hb)]
      have h1 := get_flatK encP 5 f (i * 5 + q) hb
      rw [getElem!_pos (flatK encP 5 f) (i * 5 + q) (by simpa using hb), show (i * 5 + q) / 5 = i by omega, show (i * 5 + q) % 5 = q by omega] at h1
      rw [h1, List.getElem?_eq_getElem (show q < (encP f[i]!).length from hq)]
      exact congrArg some (getElem!_pos (encP f[i]!) q hq)
    · rw [List.getElem?_eq_none (by simp; omega), List.getElem?_eq_none (by show (encP f[i]!).length ≤ q; exact Nat.le_of_not_lt hq)]
theorem swk_grown {w W : World} {g : Nat} {f : Array (PC × Nat)} (h : SWK encP 5 w g 0 f W) : w.grownBy W (some g) := by
  obtain ⟨n, os, rfl⟩ := h
  refine ⟨rfl, rfl, rfl, by simp [sortWorldK, grow, putRowK, putRow, mapBlock, Sort.ahead], fun k hk hne => ?_⟩
  unfold sortWorldK
  rw [heap_grow_old _ _ (by rw [size_putRowK]; exact hk)]
  have : g ≠ k := fun e => hne (by rw [e])
  simp [putRowK, putRow, mapBlock, Sort.ahead, Array.getElem?_modify, this]
theorem grown_cells {w w' : World} {row : Option Nat} (hg : w.grownBy w' row) {b : Nat} (o : Nat) (hb : b < w.heap.size) (hne : some b ≠ row) : w'.cell? ⟨b, o, none⟩ = w.cell? ⟨b, o, none⟩ := World.cell?_of_block (hg.block b hb hne)
theorem apart_symm {a b : Option Nat} (h : a = none ∨ a ≠ b) : b = none ∨ b ≠ a := by
  rcases h with rfl | h
  · cases b with
    | none => exact .inl rfl
    | some x => exact .inr (by simp)
  · exact .inr fun e => h e.symm
theorem below_grows {w w' : World} (h : Below w.heap.size w w') : w.grownBy w' none := ⟨h.os, h.tape, h.output, h.size, fun g hg _ => h.block g hg⟩
set_option maxRecDepth 100000 in
theorem sortQ_any {w : World} {base c lo B : Nat} {A : Option Addr} {ps : List Parc} (h : OverParcs w base lo B A c ps) (hBb : B ≤ base) (hlo : lo ≤ base) (hsz : ps.length < 1152921504606846976) :
    Calls Try.prog 28 #[.slice A ps.length c, .func (.func 29) #[] #[]] w fun e w' => e = .returned (.tuple #[]) ∧ ∃ rs, rs.length = ps.length ∧ SortedOf ps rs ∧ ParcsLo w' lo w'.heap.size A rs ∧ w.grownBy w' (Value.slice A ps.length c).ownBlock := by
  obtain ⟨xs, ho, hx⟩ := h
  have ho2 := ho
  obtain ⟨hlen, ⟨h0, hn0⟩ | ⟨g, cap, cur, hv, hbg, hh, _, _, _, ht⟩⟩ := ho2
  · have hps := List.eq_nil_of_length_eq_zero hn0
    subst hps
    injection h0 with h1 h2 h3
    subst h1 h3
    refine (sort_nil _ _).mono ?_
    rintro e w' ⟨rfl, rfl⟩
    exact ⟨rfl, [], rfl, ⟨[], rfl, List.Perm.refl _, List.Pairwise.nil⟩, ⟨[], Rd.nil _ _ _ _, fun a e => (by cases e), fun i p h => by simp at h⟩, ⟨rfl, rfl, rfl, Nat.le_refl _, fun _ _ _ => rfl⟩⟩
  · injection hv with hv _ hcc
    subst hv hcc
    obtain ⟨ys, hl, hy⟩ := pick_list (p := fun i (y : PC) => ps[i]? = some y.1 ∧ (xs.drop (i * 5)).take 5 = parcL y.1 y.2.1 y.2.2 ∧ (∀ ad, y.2.1 = some ad → lo ≤ ad.block) ∧ (y.2.1 = none → y.2.2 = 0) ∧ y.1.bs.length ≤ y.2.2 ∧ y.1.bs.length ≤ 140737488351232 ∧ Rd w B 1 y.2.1 y.1.bs.length (bytesV y.1.bs)) ps.length (fun i hi => by
      obtain ⟨a, c', h1, h2, h3⟩ := hx i ps[i] (List.getElem?_eq_getElem hi)
      exact ⟨(ps[i], a, c'), List.getElem?_eq_getElem hi, h1, h2, h3⟩)
    have R := rowK_in ho ys hl (fun i h => (hy i h).2.1)
    have hss := rowOf_size ys
    have hW : SWK encP 5 w g 0 (rowOf ys) w := ⟨0, #[], by unfold sortWorldK; rw [grow_empty]; exact (putRowK_self encP 5 w g 0 _ R.hH).symm⟩
    have hc := sortStable_any (cap := c) R (by rw [hss, hl]; exact hsz) (fun i hi => by rw [rowOf_get ys (by rwa [hss] at hi)]) hW
    rw [hss, hl] at hc
    refine hc.mono ?_
    rintro e w' ⟨rfl, f, hf, hfs, hp, hso⟩
    have hfs' : f.size = (rowOf ys).size := by rw [hss, hl]; exact hfs
    have hall : ∀ i, i < f.size → ∃ j, ∃ h : j < ys.length, f[i]! = (ys[j], j) := fun i hi =>
      permIn_all (rowOf ys) f 0 ps.length (fun x => ∃ j, ∃ h : j < ys.length, x = (ys[j], j)) (by rw [hss, hl]; exact Nat.le_refl _) hp (fun q _ h2 => ⟨q, by rw [hl]; exact h2, rowOf_get ys (by rw [hl]; exact h2)⟩) i (Nat.zero_le _) (by rw [← hfs]; exact hi)
    have hsz' := swk_size hf
    refine ⟨rfl, _, ?_, ?_, parcs_lo f hf (rowOf ys) R hfs' (Nat.le_trans hlo hbg) (fun i hi => ?_), swk_grown hf⟩
    · simp [hfs]
    · refine ⟨f.toList.map fun x => (x.1.1, x.2), by simp, ?_, ?_⟩
      · have h1 := hp.2.2
        have ef : f.extract 0 ps.length = f := by rw [← hfs]; simp
        have ed : (rowOf ys).extract 0 ps.length = rowOf ys := by rw [← hl, ← hss]; simp
        rw [ef, ed] at h1
        have h2 := h1.map fun x : PC × Nat => (x.1.1, x.2)
        refine h2.trans (List.Perm.of_eq (List.ext_getElem? fun q => ?_))
        by_cases hq : q < ys.length
        · simp [rowOf, hq, (hy q hq).1]
        · simp [rowOf, hq, show ps.length ≤ q by omega]
      · rw [List.pairwise_map, List.pairwise_iff_getElem]
        intro i j hi hj hij
        have hi' : i < f.size := by simpa using hi
        have hj' : j < f.size := by simpa using hj
        have := hso i j (Nat.zero_le _) hij (by rw [← hfs]; exact hj')
        rw [getElem!_pos f i hi', getElem!_pos f j hj'] at this
        exact this
    · obtain ⟨j, hj, e⟩ := hall i hi
      obtain ⟨_, _, t0, t1, t2, t4, hr⟩ := hy j hj
      rw [e]
      refine ⟨t0, t1, t2, t4, hr.1, fun hn0 => ?_⟩
      obtain ⟨b, o, eA, hb, hcell⟩ := hr.2 hn0
      have hgl := R.hblk
      refine ⟨b, o, eA, by omega, fun q u hu => ?_⟩
      rw [swk_cell hf (by omega) (by omega)]
      exact hcell q u hu
theorem OverParcs.nil (w : World) (base lo B : Nat) : OverParcs w base lo B none 0 [] := ⟨[], World.ownsRow_nil _ _ _ _, fun i p h => by simp at h⟩
theorem OverParcs.snoc {w w' : World} {base lo B : Nat} {A A' : Option Addr} {c c' : Nat} {ps : List Parc} {p : Parc} {a : Option Addr} {ca : Nat} {xs : List Value} (hxl : xs.length = ps.length * 5)
    (hx : ∀ i p, ps[i]? = some p → ∃ a c', (xs.drop (i * 5)).take 5 = parcL p a c' ∧ (∀ ad, a = some ad → lo ≤ ad.block) ∧ (a = none → c' = 0) ∧ p.bs.length ≤ c' ∧ p.bs.length ≤ 140737488351232 ∧ Rd w B 1 a p.bs.length (bytesV p.bs))
    (hp : (∀ ad, a = some ad → lo ≤ ad.block) ∧ (a = none → ca = 0) ∧ p.bs.length ≤ ca ∧ p.bs.length ≤ 140737488351232 ∧ Rd w B 1 a p.bs.length (bytesV p.bs)) (hk : ∀ b o, b < B → w'.cell? ⟨b, o, none⟩ = w.cell? ⟨b, o, none⟩)
    (ho' : w'.ownsRow base 52 5 (.slice A' (ps.length + 1) c') (ps.length + 1) (xs ++ parcL p a ca)) : OverParcs w' base lo B A' c' (ps ++ [p]) := by
  refine ⟨xs ++ parcL p a ca, by rw [List.length_append]; exact ho', fun i m hi => ?_⟩
  rcases Nat.lt_or_ge i ps.length with h | h
  · rw [List.getElem?_append_left h] at hi
    obtain ⟨a', c1, h1, h0, h2, h3, h4, h5⟩ := hx i m hi
    refine ⟨a', c1, ?_, h0, h2, h3, h4, h5.keep hk⟩
    rw [List.drop_append_of_le_length (by omega), List.take_append_of_le_length (by rw [List.length_drop]; omega)]
    exact h1
  · have hi0 : i = ps.length := by
      have := (List.getElem?_eq_some_iff.1 hi).1
      simp at this
      omega
    subst hi0
    rw [List.getElem?_append_right (Nat.le_refl _), Nat.sub_self] at hi
    obtain rfl : p = m := by simpa using hi
    refine ⟨a, ca, ?_, hp.1, hp.2.1, hp.2.2.1, hp.2.2.2.1, hp.2.2.2.2.keep hk⟩
    rw [List.drop_append, List.drop_of_length_le (by omega), List.nil_append, show ps.length * 5 - xs.length = 0 by omega, List.drop_zero]
    rfl
theorem OverParcs.kept {w w' : World} {base lo B : Nat} {A : Option Addr} {c : Nat} {ps : List Parc} {row : Option Nat} (h : OverParcs w base lo B A c ps) (hg : w.grownBy w' row) (hne : (Value.slice A ps.length c).ownBlock = none ∨ (Value.slice A ps.length c).ownBlock ≠ row) (hk : ∀ b o, b < B → w'.cell? ⟨b, o, none⟩ = w.cell? ⟨b, o, none⟩) : OverParcs w' base lo B A c ps := by
  obtain ⟨xs, ho, hx⟩ := h
  have ho' : w'.ownsRow base 52 5 (.slice A ps.length c) ps.length xs := by
    obtain ⟨hl, h | ⟨b, cap, cur, hv, hb, hh, hc⟩⟩ := ho
    · exact ⟨hl, .inl h⟩
    · have hlt : b < w.heap.size := (Array.getElem?_eq_some_iff.1 hh).1
      have hob : (Value.slice A ps.length c).ownBlock = some b := by rw [hv]; rfl
      rw [hob] at hne
      rcases hne with h | h
      · cases h
      · exact ⟨hl, .inr ⟨b, cap, cur, hv, hb, (hg.block b hlt h).trans hh, hc⟩⟩
  refine ⟨xs, ho', fun i p hp => ?_⟩
  obtain ⟨a, c1, h1, h0, h2, h3, h4, h5⟩ := hx i p hp
  exact ⟨a, c1, h1, h0, h2, h3, h4, h5.keep hk⟩
theorem OverParcs.lo {w : World} {base lo B : Nat} {A : Option Addr} {c : Nat} {ps : List Parc} (h : OverParcs w base lo B A c ps) (hlo : lo ≤ base) (hB : B ≤ w.heap.size) : ParcsLo w lo w.heap.size A ps := by
  obtain ⟨xs, ho, hx⟩ := h
  refine ⟨xs, Rd.of_own ho, fun a e => Nat.le_trans hlo (own_lo ho a e), fun i p hp => ?_⟩
  obtain ⟨a, c1, h1, h0, h2, h3, h4, h5⟩ := hx i p hp
  exact ⟨a, c1, h1, h0, h2, h3, h4, h5.more hB⟩
theorem ParcsLo.one {w : World} {lo B : Nat} {A : Option Addr} {ps : List Parc} (h : ParcsLo w lo B A ps) {i : Nat} {p : Parc} (hp : ps[i]? = some p) : ∃ b o a c, A = some ⟨b, o, none⟩ ∧ b < B ∧ w.cell? ⟨b, o + i * 5, none⟩ = some (.int .i64 p.f) ∧ w.cell? ⟨b, o + i * 5 + 1, none⟩ = some (.int .i64 p.t) ∧
    w.cell? ⟨b, o + i * 5 + 2, none⟩ = some (.int .i64 p.d) ∧ w.cell? ⟨b, o + i * 5 + 3, none⟩ = some (.int .i64 p.s) ∧ w.cell? ⟨b, o + i * 5 + 4, none⟩ = some (.slice a p.bs.length c) ∧ (∀ ad, a = some ad → lo ≤ ad.block) ∧ (a = none → c = 0) ∧ p.bs.length ≤ c ∧ p.bs.length ≤ 140737488351232 ∧ Rd w B 1 a p.bs.length (bytesV p.bs) := by
  obtain ⟨xs, hr, _, hx⟩ := h
  obtain ⟨a, c, h1, h0, h2, h3, h4, h5⟩ := hx i p hp
  have hi : i < ps.length := (List.getElem?_eq_some_iff.1 hp).1
  obtain ⟨b, o, e, hb, hc⟩ := hr.2 (by omega)
  have hg : ∀ j v, j < 5 → (parcL p a c)[j]? = some v → w.cell? ⟨b, o + i * 5 + j, none⟩ = some v := fun j v hj hv => by
    rw [← h1, List.getElem?_take, if_pos hj, List.getElem?_drop] at hv
    have := hc _ _ hv
    rwa [← Nat.add_assoc] at this
  exact ⟨b, o, a, c, e, hb, hg 0 _ (by omega) rfl, hg 1 _ (by omega) rfl, hg 2 _ (by omega) rfl, hg 3 _ (by omega) rfl, hg 4 _ (by omega) rfl, h0, h2, h3, h4, h5⟩
end Go.Proofs.Ytlcpackmoolngaa.Ss
namespace Go.Proofs.Ytlcpackmoolngaa.Ss
open Go.ChangeShapes Go.WideShapes Go.ChangeAt Go.Shelf Go.RowKit Go.Lib Go.Sort Go.Proofs.Ytlcpackmoolngaa.Stb Go.Proofs.Ytlcpackmoolngaa.Bu Go.Proofs.Ytlcpackmoolngaa.Mem Go.Proofs.Ytlcpackmoolngaa.Op Go.Proofs.Ytlcpackmoolngaa.Sm Go.Proofs.Ytlcpackmoolngaa.Nd Go.Proofs.Ytlcpackmoolngaa.Rws
set_option linter.unusedVariables false
set_option linter.unusedSimpArgs false
set_option maxRecDepth 100000 in
set_option maxHeartbeats 4000000 in
theorem step_any (now ser t : Int) (A : Option Addr) (c : Nat) (qs : List Parc) (B : Nat) (w : World) (hB : B ≤ w.heap.size) (hl : qs.length * 56 ≤ 140737488351232) (hq : ParcsAt w B A qs) (ht : t < now ∨ 1099511627776 < t) :
    Calls Try.prog 15 #[.agg #[.int .i64 now, .int .i64 ser, .slice A qs.length c], .int .i64 t] w fun e w' => e = .returned (.tuple #[.agg #[.int .i64 0, .int .i64 0, .slice none 0 0], .slice none 0 0, .int .i64 3]) ∧ Below w.heap.size w w' := by
  have D1 := Lib.hid (show Blk ((w.alloc (.cells #[.int .i64 now, .int .i64 ser, .slice A qs.length c] 24)).alloc (.cells #[.int .i64 0, .int .i64 0, .slice none 0 0] 24)) w.heap.size 24 #[.int .i64 now, .int .i64 ser, .slice A qs.length c] from (show Blk (w.alloc (.cells #[.int .i64 now, .int .i64 ser, .slice A qs.length c] 24)) w.heap.size 24 #[.int .i64 now, .int .i64 ser, .slice A qs.length c] from Blk.fresh _ _ _).alloc (.cells #[.int .i64 0, .int .i64 0, .slice none 0 0] 24))
  have D2 := Lib.hid (show Blk ((w.alloc (.cells #[.int .i64 now, .int .i64 ser, .slice A qs.length c] 24)).alloc (.cells #[.int .i64 0, .int .i64 0, .slice none 0 0] 24)) (w.heap.size + 1) 24 #[.int .i64 0, .int .i64 0, .slice none 0 0] from fresh2 _ _ _ _)
  have HB := Lib.hid (((Below.refl w.heap.size w).alloc (Nat.le_refl _) (.cells #[.int .i64 now, .int .i64 ser, .slice A qs.length c] 24)).alloc (by simp) (.cells #[.int .i64 0, .int .i64 0, .slice none 0 0] 24))
  go_enter Try.func15, Try.ntmps15
  go_upto_region 1 with fail
  generalize ((w.alloc (.cells #[.int .i64 now, .int .i64 ser, .slice A qs.length c] 24)).alloc (.cells #[.int .i64 0, .int .i64 0, .slice none 0 0] 24)) = W at *
  have y0 := D1.out.cell 0
  simp only [List.getElem?_toArray, List.getElem?_cons_zero, List.getElem?_cons_succ] at y0
  by_cases h1 : t < now
  · go_wp2_with (refine wpList_store_row rfl 24 _ _ rfl (w.heap.size + 1) #[.int .i64 0, .int .i64 0, .slice none 0 0] rfl rfl 24 _ D2.out (by kernel_rfl) rfl (by simp [Value.oneCell']) ?_)
    exact ret_row3 (x := .slice none 0 0) (y := .int .i64 3) rfl rfl rfl rfl (D2.out.setRow #[.int .i64 0, .int .i64 0, .slice none 0 0]) ⟨by rw [Try.underlying24], by kernel_rfl⟩ rfl ⟨rfl, below_setRow HB.out (by omega) _⟩
  · have h2 : (1099511627776 : Int) < t := by omega
    go_wp2_with (refine wpList_store_row rfl 24 _ _ rfl (w.heap.size + 1) #[.int .i64 0, .int .i64 0, .slice none 0 0] rfl rfl 24 _ D2.out (by kernel_rfl) rfl (by simp [Value.oneCell']) ?_)
    exact ret_row3 (x := .slice none 0 0) (y := .int .i64 3) rfl rfl rfl rfl (D2.out.setRow #[.int .i64 0, .int .i64 0, .slice none 0 0]) ⟨by rw [Try.underlying24], by kernel_rfl⟩ rfl ⟨rfl, below_setRow HB.out (by omega) _⟩
end Go.Proofs.Ytlcpackmoolngaa.Ss
namespace Go.Proofs.Ytlcpackmoolngaa.Tx
open Go.RowKit Go.Proofs.Ytlcpackmoolngaa.Mem
set_option linter.unusedVariables false
theorem wpList_append_at {P : Program} (w : World) {ops : Array Oper} {rest : List Oper} {o : Oper} {a : Act} {Q : Exit → Act → World → Prop} (hgd : o.guard = none) (s x : Operand) (t : TypeId)
    (ho : o.op = .call { callee := .builtin .append, args := #[s, x], argTypes := #[t, t] }) (base : Nat) {e : TypeId} {z : Value} {size bytes : Nat} (E : Elem P t e z size bytes)
    {v : Value} {n : Nat} {xs : List Value} (hs : a.eval s = v) (hown : w.ownsRow base e size v n xs) {B b o' m c : Nat} {news : List Value} (hx : a.eval x = .slice (some ⟨b, o', none⟩) m c) (hr : Rd w B size (some ⟨b, o', none⟩) m news) (hm : 0 < m) (h1 : ∀ u ∈ news, u.oneCell' = true)
    (h63 : n + m ≤ maxLen) (hbytes : (n + m) * bytes ≤ 140737488355328) (hbase : base ≤ w.heap.size)
    (h : ∀ v' w', w'.ownsRow base e size v' (n + m) (xs ++ news) → w.grownBy w' v.ownBlock → (v'.ownBlock = v.ownBlock ∨ v'.ownBlock = some w.heap.size) → wpList P ops Q rest (a.put o.dst v') w') :
    wpList P ops Q (o :: rest) a w := by
  obtain ⟨i, hi, hz0, hz1, hz2⟩ := info_parts E.info
  refine wpList_append_own_at w hgd s x t ho base e i z size bytes E.und hi hz0 hz1 hz2 E.cells E.pos v n xs hs hown ⟨b, o', none⟩ m c news hx hr.1 (fun j u hu => ?_) h1 h63 hbytes hbase (fun v' w' k1 k2 _ k4 => h v' w' k1 k2 k4)
  obtain ⟨b2, o2, he, hb, hc⟩ := hr.2 hm
  injection he with he
  injection he with e1 e2
  subst e1 e2
  have e1 : (⟨b, o', none⟩ : Addr).add j = ⟨b, o' + j, none⟩ := by unfold Addr.add; split <;> simp_all
  rw [e1]
  exact hc j u hu
theorem own_after {w : World} {base : Nat} {e : TypeId} {size n : Nat} {v v' d : Value} {xs : List Value} (h : w.ownsRow base e size d n xs) (hne : d.ownBlock = none ∨ d.ownBlock ≠ v.ownBlock) (ho : v'.ownBlock = v.ownBlock ∨ v'.ownBlock = some w.heap.size) : d.ownBlock = none ∨ d.ownBlock ≠ v'.ownBlock := by
  rcases ho with e1 | e1
  · rw [e1]; exact hne
  · right
    rw [e1]
    intro e2
    have := (h.lt _ e2).2
    omega
end Go.Proofs.Ytlcpackmoolngaa.Tx
namespace Go.Proofs.Ytlcpackmoolngaa.Ss
open Go.ChangeShapes Go.WideShapes Go.ChangeAt Go.Shelf Go.RowKit Go.Lib Go.Sort Go.Proofs.Ytlcpackmoolngaa.Stb Go.Proofs.Ytlcpackmoolngaa.Bu Go.Proofs.Ytlcpackmoolngaa.Mem Go.Proofs.Ytlcpackmoolngaa.Op Go.Proofs.Ytlcpackmoolngaa.Sm Go.Proofs.Ytlcpackmoolngaa.Nd Go.Proofs.Ytlcpackmoolngaa.Rws
set_option linter.unusedVariables false
set_option linter.unusedSimpArgs false
set_option maxRecDepth 100000 in
set_option maxHeartbeats 4000000 in
theorem stepB_any (now ser t : Int) (A : Option Addr) (c : Nat) (qs : List Parc) (B : Nat) (w : World) (hB : B ≤ w.heap.size) (hl : qs.length * 56 ≤ 140737488351232) (hq : ParcsAt w B A qs) (ht : now ≤ t) (ht2 : t ≤ 1099511627776) :
    Calls Try.prog 15 #[.agg #[.int .i64 now, .int .i64 ser, .slice A qs.length c], .int .i64 t] w fun e w' => ∃ A1 c1 A2 c2 rs, e = .returned (.tuple #[.agg #[.int .i64 t, .int .i64 ser, .slice A1 (qs.filter fun p => !decide (p.d ≤ t)).length c1], .slice A2 rs.length c2, .int .i64 0]) ∧ SortedOf (qs.filter fun p => decide (p.d ≤ t)) rs ∧ ParcsAt w' w'.heap.size A2 rs ∧ ParcsAt w' w'.heap.size A1 (qs.filter fun p => !decide (p.d ≤ t)) ∧ Below w.heap.size w w' := by
  have D1 := Lib.hid (show Blk ((w.alloc (.cells #[.int .i64 now, .int .i64 ser, .slice A qs.length c] 24)).alloc (.cells #[.int .i64 0, .int .i64 0, .slice none 0 0] 24)) w.heap.size 24 #[.int .i64 now, .int .i64 ser, .slice A qs.length c] from (show Blk (w.alloc (.cells #[.int .i64 now, .int .i64 ser, .slice A qs.length c] 24)) w.heap.size 24 #[.int .i64 now, .int .i64 ser, .slice A qs.length c] from Blk.fresh _ _ _).alloc (.cells #[.int .i64 0, .int .i64 0, .slice none 0 0] 24))
  have D2 := Lib.hid (show Blk ((w.alloc (.cells #[.int .i64 now, .int .i64 ser, .slice A qs.length c] 24)).alloc (.cells #[.int .i64 0, .int .i64 0, .slice none 0 0] 24)) (w.heap.size + 1) 24 #[.int .i64 0, .int .i64 0, .slice none 0 0] from fresh2 _ _ _ _)
  have HB := Lib.hid (((Below.refl w.heap.size w).alloc (Nat.le_refl _) (.cells #[.int .i64 now, .int .i64 ser, .slice A qs.length c] 24)).alloc (by simp) (.cells #[.int .i64 0, .int .i64 0, .slice none 0 0] 24))
  go_enter Try.func15, Try.ntmps15
  go_upto_region 1 with fail
  generalize ((w.alloc (.cells #[.int .i64 now, .int .i64 ser, .slice A qs.length c] 24)).alloc (.cells #[.int .i64 0, .int .i64 0, .slice none 0 0] 24)) = W at *
  have y0 := D1.out.cell 0
  simp only [List.getElem?_toArray, List.getElem?_cons_zero, List.getElem?_cons_succ] at y0
  have HQ := Lib.hid (hq.below (HB.out.mono hB))
  have h1 : ¬ t < now := by omega
  have h2 : ¬ (1099511627776 : Int) < t := by omega
  clear hq
  go_wp2_with (refine wpList_whole rfl 24 _ rfl w.heap.size rfl D1.out _ Try.underlying24 rfl (by kernel_rfl) ?_)
  refine (copiedD_any now ser A c qs B W (Nat.le_trans hB HB.out.size) hl HQ.out).mono ?_
  rintro e w1 ⟨A', c', rfl, hown, hb⟩
  have hfl : ∀ w, (Instr.field 24 (.agg #[.int .i64 now, .int .i64 ser, .slice A' qs.length c']) 2).run Try.prog w = .ok (.slice A' qs.length c') w := fun _ => by kernel_rfl
  go_wp2_with fail
  go_loopw [8, 9, 26] (fun v u i wr => ∃ (k : Nat) (A1 : Option Addr) (c1 : Nat) (A2 : Option Addr) (c2 : Nat), k ≤ qs.length ∧ i = .int .i64 k ∧
    v = .slice A1 ((qs.take k).filter fun p => decide (p.d ≤ t)).length c1 ∧ u = .slice A2 ((qs.take k).filter fun p => !decide (p.d ≤ t)).length c2 ∧
    OverParcs wr w1.heap.size W.heap.size w1.heap.size A1 c1 ((qs.take k).filter fun p => decide (p.d ≤ t)) ∧ OverParcs wr w1.heap.size W.heap.size w1.heap.size A2 c2 ((qs.take k).filter fun p => !decide (p.d ≤ t)) ∧
    (v.ownBlock = none ∨ v.ownBlock ≠ u.ownBlock) ∧ Below w1.heap.size w1 wr) (fun _ _ i _ => qs.length - (intOf i).toNat)
  case atStart => exact ⟨0, none, 0, none, 0, by omega, rfl, rfl, rfl, OverParcs.nil _ _ _ _, OverParcs.nil _ _ _ _, .inl rfl, Below.refl _ _⟩
  case round =>
    obtain ⟨k, A1, c1, A2, c2, hk, rfl, rfl, rfl, ho1, ho2, hne, hb2⟩ := hrel
    obtain ⟨ps1, hp1⟩ : ∃ l, (qs.take k).filter (fun p => decide (p.d ≤ t)) = l := ⟨_, rfl⟩
    obtain ⟨ps2, hp2⟩ : ∃ l, (qs.take k).filter (fun p => !decide (p.d ≤ t)) = l := ⟨_, rfl⟩
    rw [hp1] at ho1 hne ⊢
    rw [hp2] at ho2 hne ⊢
    have HP1 := Lib.hid hp1
    have HP2 := Lib.hid hp2
    have HL1 := Lib.hid (show ps1.length ≤ k from by rw [← hp1]; exact Nat.le_trans (List.length_filter_le _ _) (by rw [List.length_take]; omega))
    have HL2 := Lib.hid (show ps2.length ≤ k from by rw [← hp2]; exact Nat.le_trans (List.length_filter_le _ _) (by rw [List.length_take]; omega))
    have HO1 := Lib.hid ho1
    have HO2 := Lib.hid ho2
    have HB2 := Lib.hid hb2
    have HNE := Lib.hid hne
    clear ho1 ho2 hne hp1 hp2
    by_cases hlt : k < qs.length
    · have hm : qs[k]? = some qs[k] := List.getElem?_eq_getElem hlt
      have HTK := Lib.hid (show qs.take (k + 1) = qs.take k ++ [qs[k]] from by rw [List.take_add_one, hm]; rfl)
      generalize qs[k] = p at *
      obtain ⟨b, o, a, ca, rfl, hbB, x0, x1, x2, x3, x4, hlo, h2, h3, h4, h5⟩ := ParcsLo.one (hown.lo.keep (Nat.le_refl _) fun b o _ hb => hb2.cell (p := ⟨b, o, none⟩) hb) hm
      have HPA := Lib.hid (And.intro hlo (And.intro h2 (And.intro h3 (And.intro h4 h5))))
      have hk0 : (0 : Int) ≤ (k : Int) := by omega
      have hk1 : (k : Int) < (qs.length : Int) := by omega
      clear hlo h2 h3 h4 h5 hm hb2
      go_upto_region 8 with fail
      have PB := Lib.hid (show Blk (wr.alloc (.cells #[.int .i64 p.f, .int .i64 p.t, .int .i64 p.d, .int .i64 p.s, .slice a p.bs.length ca] 52)) wr.heap.size 52 #[.int .i64 p.f, .int .i64 p.t, .int .i64 p.d, .int .i64 p.s, .slice a p.bs.length ca] from Blk.fresh _ _ _)
      have hbl : Below wr.heap.size wr (wr.alloc (.cells #[.int .i64 p.f, .int .i64 p.t, .int .i64 p.d, .int .i64 p.s, .slice a p.bs.length ca] 52)) := (Below.refl _ _).alloc (Nat.le_refl _) _
      have HBL := Lib.hid hbl
      clear x0 x1 x2 x3 x4 hbl
      generalize (wr.alloc (.cells #[.int .i64 p.f, .int .i64 p.t, .int .i64 p.d, .int .i64 p.s, .slice a p.bs.length ca] 52)) = w2 at *
      obtain ⟨g, hg⟩ : ∃ g, wr.heap.size = g := ⟨_, rfl⟩
      rw [hg] at PB ⊢
      have HGG := Lib.hid hg
      clear hg
      have yy0 := PB.out.cell 0
      have yy1 := PB.out.cell 1
      have yy2 := PB.out.cell 2
      have yy3 := PB.out.cell 3
      have yy4 := PB.out.cell 4
      simp only [List.getElem?_toArray, List.getElem?_cons_zero, List.getElem?_cons_succ] at yy0 yy1 yy2 yy3 yy4
      have HN : Hid (Rd (w2.alloc (.cells #[.int .i64 p.f, .int .i64 p.t, .int .i64 p.d, .int .i64 p.s, .slice a p.bs.length ca] 52)) (w2.heap.size + 1) 5 (some ⟨w2.heap.size, 0, none⟩) 1 (parcL p a ca)) := Lib.hid (rd_five w2 (parcL p a ca) rfl _)
      have hb3 : Below w2.heap.size w2 (w2.alloc (.cells #[.int .i64 p.f, .int .i64 p.t, .int .i64 p.d, .int .i64 p.s, .slice a p.bs.length ca] 52)) := (Below.refl _ _).alloc (Nat.le_refl _) _
      have HBS : Hid (w1.heap.size ≤ (w2.alloc (.cells #[.int .i64 p.f, .int .i64 p.t, .int .i64 p.d, .int .i64 p.s, .slice a p.bs.length ca] 52)).heap.size) := Lib.hid (Nat.le_trans HB2.out.size (Nat.le_trans HBL.out.size hb3.size))
      by_cases hd : p.d ≤ t
      · have E1 := Lib.hid (show (qs.take (k + 1)).filter (fun p => decide (p.d ≤ t)) = ps1 ++ [p] from by rw [HTK.out, List.filter_append, HP1.out]; simp [hd])
        have E2 := Lib.hid (show (qs.take (k + 1)).filter (fun p => !decide (p.d ≤ t)) = ps2 from by rw [HTK.out, List.filter_append, HP2.out]; simp [hd])
        obtain ⟨xs, hrow, hxs⟩ := HO1.out
        have HX := Lib.hid hxs
        have HW := Lib.hid (Nd.ownsRow_below (Nd.ownsRow_below hrow HBL.out) hb3)
        have HXL := Lib.hid (show xs.length = ps1.length * 5 from hrow.1)
        clear hrow hxs
        go_wp2_with (at_builtin; refine Tx.wpList_append_at _ rfl (.tmp 34) (.tmp 36) 22 rfl (base := w1.heap.size) elemParcs rfl HW.out rfl HN.out (by omega) (by simp [parcL, Value.oneCell']) (by have := HL1.out; unfold maxLen; omega) (by have := HL1.out; omega) HBS.out ?_; intro v4 w5 hown4 hg4 hat4; obtain ⟨A4, c4, rfl, _⟩ := own_form hown4; have HO4 := Lib.hid hown4; have HG4 := Lib.hid hg4; have HT4 := Lib.hid hat4; clear hown4 hg4 hat4)
        have hkw : ∀ b o, b < w1.heap.size → w5.cell? ⟨b, o, none⟩ = wr.cell? ⟨b, o, none⟩ := fun b o hb => by
          have h1 : wr.heap.size ≤ w2.heap.size := HBL.out.size
          have h2 : w2.heap.size ≤ (w2.alloc (.cells #[.int .i64 p.f, .int .i64 p.t, .int .i64 p.d, .int .i64 p.s, .slice a p.bs.length ca] 52)).heap.size := hb3.size
          have h3 : w1.heap.size ≤ wr.heap.size := HB2.out.size
          exact (grown_cells HG4.out o (by omega) (own_ge HW.out hb)).trans ((hb3.cell (p := ⟨b, o, none⟩) (by show b < _; omega)).trans (HBL.out.cell (p := ⟨b, o, none⟩) (by show b < _; omega)))
        have g1 := OverParcs.snoc (A := none) (c := 0) HXL.out HX.out HPA.out hkw HO4.out
        have hbw : Below wr.heap.size wr (w2.alloc (.cells #[.int .i64 p.f, .int .i64 p.t, .int .i64 p.d, .int .i64 p.s, .slice a p.bs.length ca] 52)) := HBL.out.trans (hb3.mono HBL.out.size)
        have hn2 : (Value.slice A2 ps2.length c2).ownBlock = none ∨ (Value.slice A2 ps2.length c2).ownBlock ≠ (Value.slice A1 ps1.length c1).ownBlock := apart_symm HNE.out
        have g2 : OverParcs w5 w1.heap.size W.heap.size w1.heap.size A2 c2 ps2 :=
          (OverParcs.kept HO2.out (below_grows hbw) (by cases (Value.slice A2 ps2.length c2).ownBlock <;> simp) (fun b o hb => hbw.cell (p := ⟨b, o, none⟩) (by have h3 : w1.heap.size ≤ wr.heap.size := HB2.out.size; show b < _; omega))).kept HG4.out hn2 (fun b o hb => grown_cells HG4.out o (by have h1 : wr.heap.size ≤ w2.heap.size := HBL.out.size; have h2 : w2.heap.size ≤ (w2.alloc (.cells #[.int .i64 p.f, .int .i64 p.t, .int .i64 p.d, .int .i64 p.s, .slice a p.bs.length ca] 52)).heap.size := hb3.size; have h3 : w1.heap.size ≤ wr.heap.size := HB2.out.size; omega) (own_ge HW.out hb))
        obtain ⟨ys, hys, _⟩ := HO2.out
        have hap := Tx.own_after (Nd.ownsRow_below (Nd.ownsRow_below hys HBL.out) hb3) hn2 HT4.out
        have hbf : Below w1.heap.size w1 w5 := (onward HB2.out (Nat.le_refl _) hbw).grown HG4.out (Nat.le_trans HB2.out.size hbw.size) (fun g e => (HW.out.lt g e).1)
        exact ⟨⟨k + 1, A4, c4, A2, c2, by omega, by go_num, by rw [E1.out]; simp, by rw [E2.out], by rw [E1.out]; exact g1, by rw [E2.out]; exact g2, apart_symm hap, hbf⟩, by simp [intOf]; omega⟩
      · have E1 := Lib.hid (show (qs.take (k + 1)).filter (fun p => decide (p.d ≤ t)) = ps1 from by rw [HTK.out, List.filter_append, HP1.out]; simp [hd])
        have E2 := Lib.hid (show (qs.take (k + 1)).filter (fun p => !decide (p.d ≤ t)) = ps2 ++ [p] from by rw [HTK.out, List.filter_append, HP2.out]; simp [hd])
        obtain ⟨xs, hrow, hxs⟩ := HO2.out
        have HX := Lib.hid hxs
        have HW := Lib.hid (Nd.ownsRow_below (Nd.ownsRow_below hrow HBL.out) hb3)
        have HXL := Lib.hid (show xs.length = ps2.length * 5 from hrow.1)
        clear hrow hxs
        go_wp2_with (at_builtin; refine Tx.wpList_append_at _ rfl (.tmp 38) (.tmp 40) 22 rfl (base := w1.heap.size) elemParcs rfl HW.out rfl HN.out (by omega) (by simp [parcL, Value.oneCell']) (by have := HL2.out; unfold maxLen; omega) (by have := HL2.out; omega) HBS.out ?_; intro v4 w5 hown4 hg4 hat4; obtain ⟨A4, c4, rfl, _⟩ := own_form hown4; have HO4 := Lib.hid hown4; have HG4 := Lib.hid hg4; have HT4 := Lib.hid hat4; clear hown4 hg4 hat4)
        have hkw : ∀ b o, b < w1.heap.size → w5.cell? ⟨b, o, none⟩ = wr.cell? ⟨b, o, none⟩ := fun b o hb => by
          have h1 : wr.heap.size ≤ w2.heap.size := HBL.out.size
          have h2 : w2.heap.size ≤ (w2.alloc (.cells #[.int .i64 p.f, .int .i64 p.t, .int .i64 p.d, .int .i64 p.s, .slice a p.bs.length ca] 52)).heap.size := hb3.size
          have h3 : w1.heap.size ≤ wr.heap.size := HB2.out.size
          exact (grown_cells HG4.out o (by omega) (own_ge HW.out hb)).trans ((hb3.cell (p := ⟨b, o, none⟩) (by show b < _; omega)).trans (HBL.out.cell (p := ⟨b, o, none⟩) (by show b < _; omega)))
        have g2 := OverParcs.snoc (A := none) (c := 0) HXL.out HX.out HPA.out hkw HO4.out
        have hbw : Below wr.heap.size wr (w2.alloc (.cells #[.int .i64 p.f, .int .i64 p.t, .int .i64 p.d, .int .i64 p.s, .slice a p.bs.length ca] 52)) := HBL.out.trans (hb3.mono HBL.out.size)
        have hn1 : (Value.slice A1 ps1.length c1).ownBlock = none ∨ (Value.slice A1 ps1.length c1).ownBlock ≠ (Value.slice A2 ps2.length c2).ownBlock := HNE.out
        have g1 : OverParcs w5 w1.heap.size W.heap.size w1.heap.size A1 c1 ps1 :=
          (OverParcs.kept HO1.out (below_grows hbw) (by cases (Value.slice A1 ps1.length c1).ownBlock <;> simp) (fun b o hb => hbw.cell (p := ⟨b, o, none⟩) (by have h3 : w1.heap.size ≤ wr.heap.size := HB2.out.size; show b < _; omega))).kept HG4.out hn1 (fun b o hb => grown_cells HG4.out o (by have h1 : wr.heap.size ≤ w2.heap.size := HBL.out.size; have h2 : w2.heap.size ≤ (w2.alloc (.cells #[.int .i64 p.f, .int .i64 p.t, .int .i64 p.d, .int .i64 p.s, .slice a p.bs.length ca] 52)).heap.size := hb3.size; have h3 : w1.heap.size ≤ wr.heap.size := HB2.out.size; omega) (own_ge HW.out hb))
        obtain ⟨ys, hys, _⟩ := HO1.out
        have hap := Tx.own_after (Nd.ownsRow_below (Nd.ownsRow_below hys HBL.out) hb3) hn1 HT4.out
        have hbf : Below w1.heap.size w1 w5 := (onward HB2.out (Nat.le_refl _) hbw).grown HG4.out (Nat.le_trans HB2.out.size hbw.size) (fun g e => (HW.out.lt g e).1)
        exact ⟨⟨k + 1, A1, c1, A4, c4, by omega, by go_num, by rw [E1.out], by rw [E2.out]; simp, by rw [E1.out]; exact g1, by rw [E2.out]; exact g2, hap, hbf⟩, by simp [intOf]; omega⟩
    · obtain rfl : k = qs.length := by omega
      rw [List.take_length] at HP1 HP2
      have HB1 := Lib.hid hb
      clear hlt hb2
      go_wp2_with fail
      refine (sortQ_any HO1.out (Nat.le_refl _) HB1.out.size (by have := HL1.out; omega)).mono ?_
      rintro e w6 ⟨rfl, rs, hrl, hso, hpr, hg6⟩
      have hne1 : ∀ b, b < w1.heap.size → some b ≠ (Value.slice A1 ps1.length c1).ownBlock := fun b hb => by
        obtain ⟨xs, ho, _⟩ := HO1.out
        exact own_ge ho hb
      have hlw : w.heap.size + 1 < W.heap.size := D2.out.lt
      have D1 := Lib.hid ((D1.out.below HB1.out D1.out.lt).below HB2.out (Nat.lt_of_lt_of_le D1.out.lt HB1.out.size))
      have D2 := Lib.hid ((D2.out.below HB1.out D2.out.lt).below HB2.out (Nat.lt_of_lt_of_le D2.out.lt HB1.out.size))
      have D1 := Lib.hid (D1.out.grown hg6 (hne1 _ (by have := HB1.out.size; omega)))
      have D2 := Lib.hid (D2.out.grown hg6 (hne1 _ (by have := HB1.out.size; omega)))
      have HPQ := HP2
      have HP2 := Lib.hid (show (Value.slice A2 ps2.length c2).ownBlock = none ∨ (Value.slice A2 ps2.length c2).ownBlock ≠ (Value.slice A1 ps1.length c1).ownBlock from apart_symm HNE.out)
      have HR2 := Lib.hid ((HO2.out.kept hg6 HP2.out (fun b o hb => grown_cells hg6 o (Nat.lt_of_lt_of_le hb HB2.out.size) (hne1 b hb))).lo HB1.out.size (Nat.le_trans HB2.out.size hg6.size))
      have HR1 := Lib.hid hpr
      have HSO := Lib.hid hso
      have HRL := Lib.hid hrl
      have HY := Lib.hid ((onward (onward HB.out (Nat.le_refl _) HB1.out) (Nat.le_refl _) HB2.out).grown hg6 (Nat.le_trans HB.out.size (Nat.le_trans HB1.out.size HB2.out.size)) (fun g e => by
        obtain ⟨xs, ho, _⟩ := HO1.out
        have := (ho.lt g e).1
        have := HB1.out.size
        omega))
      have y1 := D1.out.cell 1
      simp only [List.getElem?_toArray, List.getElem?_cons_zero, List.getElem?_cons_succ] at y1
      clear hrl hso hpr hg6 hne1
      go_wp2_with (refine wpList_store_row rfl 24 _ _ rfl (w.heap.size + 1) #[.int .i64 t, .int .i64 ser, .slice A2 ps2.length c2] rfl rfl 24 _ D2.out (by kernel_rfl) rfl (by simp [Value.oneCell']) ?_)
      refine ret_row3 (x := .slice A1 ps1.length c1) (y := .int .i64 0) rfl rfl rfl rfl (D2.out.setRow #[.int .i64 t, .int .i64 ser, .slice A2 ps2.length c2]) ⟨by rw [Try.underlying24], by kernel_rfl⟩ rfl ?_
      rw [HP1.out]
      refine ⟨A2, c2, A1, c1, rs, by rw [HRL.out, HPQ.out], HSO.out, ?_, ?_, below_setRow HY.out (by omega) _⟩
      · exact ((HR1.out.setRow (by omega) _).keep (below_setRow (Below.refl 0 w6) (Nat.zero_le _) _).size fun _ _ _ _ => rfl).at
      · rw [HPQ.out]
        exact ((HR2.out.setRow (by omega) _).keep (below_setRow (Below.refl 0 w6) (Nat.zero_le _) _).size fun _ _ _ _ => rfl).at
end Go.Proofs.Ytlcpackmoolngaa.Ss
namespace Go.Proofs.Ytlcpackmoolngaa.Ss
open Go.ChangeShapes Go.WideShapes Go.ChangeAt Go.Shelf Go.RowKit Go.Lib Go.Sort Go.Proofs.Ytlcpackmoolngaa.Stb Go.Proofs.Ytlcpackmoolngaa.Bu Go.Proofs.Ytlcpackmoolngaa.Mem Go.Proofs.Ytlcpackmoolngaa.Op Go.Proofs.Ytlcpackmoolngaa.Sm Go.Proofs.Ytlcpackmoolngaa.Nd Go.Proofs.Ytlcpackmoolngaa.Rws
set_option linter.unusedVariables false
set_option linter.unusedSimpArgs false
set_option maxRecDepth 100000 in
set_option maxHeartbeats 4000000 in
theorem refstepA_any (now ser t : Int) (A : Option Addr) (c : Nat) (qs : List Parc) (B : Nat) (w : World) (hB : B ≤ w.heap.size) (hl : qs.length * 56 ≤ 140737488351232) (hq : ParcsAt w B A qs) (ht : t < now ∨ 1099511627776 < t) :
    Calls Try.prog 16 #[.agg #[.int .i64 now, .int .i64 ser, .slice A qs.length c], .int .i64 t] w fun e w' => e = .returned (.tuple #[.agg #[.int .i64 0, .int .i64 0, .slice none 0 0], .slice none 0 0, .int .i64 3]) ∧ Below w.heap.size w w' := by
  have D1 := Lib.hid (show Blk ((w.alloc (.cells #[.int .i64 now, .int .i64 ser, .slice A qs.length c] 24)).alloc (.cells #[.int .i64 0, .int .i64 0, .slice none 0 0] 24)) w.heap.size 24 #[.int .i64 now, .int .i64 ser, .slice A qs.length c] from (show Blk (w.alloc (.cells #[.int .i64 now, .int .i64 ser, .slice A qs.length c] 24)) w.heap.size 24 #[.int .i64 now, .int .i64 ser, .slice A qs.length c] from Blk.fresh _ _ _).alloc (.cells #[.int .i64 0, .int .i64 0, .slice none 0 0] 24))
  have D2 := Lib.hid (show Blk ((w.alloc (.cells #[.int .i64 now, .int .i64 ser, .slice A qs.length c] 24)).alloc (.cells #[.int .i64 0, .int .i64 0, .slice none 0 0] 24)) (w.heap.size + 1) 24 #[.int .i64 0, .int .i64 0, .slice none 0 0] from fresh2 _ _ _ _)
  have HB := Lib.hid (((Below.refl w.heap.size w).alloc (Nat.le_refl _) (.cells #[.int .i64 now, .int .i64 ser, .slice A qs.length c] 24)).alloc (by simp) (.cells #[.int .i64 0, .int .i64 0, .slice none 0 0] 24))
  go_enter Try.func16, Try.ntmps16
  go_upto_region 1 with fail
  generalize ((w.alloc (.cells #[.int .i64 now, .int .i64 ser, .slice A qs.length c] 24)).alloc (.cells #[.int .i64 0, .int .i64 0, .slice none 0 0] 24)) = W at *
  have y0 := D1.out.cell 0
  simp only [List.getElem?_toArray, List.getElem?_cons_zero, List.getElem?_cons_succ] at y0
  by_cases h1 : t < now
  · go_wp2_with (refine wpList_store_row rfl 24 _ _ rfl (w.heap.size + 1) #[.int .i64 0, .int .i64 0, .slice none 0 0] rfl rfl 24 _ D2.out (by kernel_rfl) rfl (by simp [Value.oneCell']) ?_)
    exact ret_row3 (x := .slice none 0 0) (y := .int .i64 3) rfl rfl rfl rfl (D2.out.setRow #[.int .i64 0, .int .i64 0, .slice none 0 0]) ⟨by rw [Try.underlying24], by kernel_rfl⟩ rfl ⟨rfl, below_setRow HB.out (by omega) _⟩
  · have h2 : (1099511627776 : Int) < t := by omega
    go_wp2_with (refine wpList_store_row rfl 24 _ _ rfl (w.heap.size + 1) #[.int .i64 0, .int .i64 0, .slice none 0 0] rfl rfl 24 _ D2.out (by kernel_rfl) rfl (by simp [Value.oneCell']) ?_)
    exact ret_row3 (x := .slice none 0 0) (y := .int .i64 3) rfl rfl rfl rfl (D2.out.setRow #[.int .i64 0, .int .i64 0, .slice none 0 0]) ⟨by rw [Try.underlying24], by kernel_rfl⟩ rfl ⟨rfl, below_setRow HB.out (by omega) _⟩
end Go.Proofs.Ytlcpackmoolngaa.Ss
