import Derived.Test.YtlcpackmoolngaaPk5
import Derived.Test.YtlcpackmoolngaaPk4
import Derived.Deep.RegionLaw
import Derived.Lib.SliceRun
import Derived.Laws.IdiomCopy
import Derived.Test.YtlcpackmoolngaaPk2
namespace Go.Proofs.Ytlcpackmoolngaa.Bu
open Go.ChangeShapes Go.WideShapes Go.ChangeAt Go.RowKit Go.Proofs.Ytlcpackmoolngaa.Mem Go.Proofs.Ytlcpackmoolngaa.Op Go.Proofs.Ytlcpackmoolngaa.Sm Go.Proofs.Ytlcpackmoolngaa.Nd Go.Proofs.Ytlcpackmoolngaa.Rws
set_option linter.unusedVariables false
set_option linter.unusedSimpArgs false
def loseR (now ser0 : Int) (qs : List Parc) (s : Int) : Int × Int × List Parc × Int :=
  match fnd s qs with | some k => (now, ser0, qs.eraseIdx k, 0) | none => (0, 0, [], 7)
theorem erase_len (xs : List Value) (n k : Nat) (hx : xs.length = n * 5) (hk : k < n) : (xs.take (k * 5) ++ xs.drop ((k + 1) * 5)).length = (n - 1) * 5 := by
  rw [List.length_append, List.length_take, List.length_drop, Nat.min_eq_left (by omega)]
  omega
theorem erase_row (xs : List Value) (n k i : Nat) (hx : xs.length = n * 5) (hk : k < n) (hi : i < n - 1) : ((xs.take (k * 5) ++ xs.drop ((k + 1) * 5)).drop (i * 5)).take 5 = (xs.drop ((if i < k then i else i + 1) * 5)).take 5 := by
  have hl : (xs.take (k * 5)).length = k * 5 := by rw [List.length_take]; omega
  by_cases h : i < k
  · rw [if_pos h, List.drop_append_of_le_length (by omega), List.take_append_of_le_length (by rw [List.length_drop]; omega), List.drop_take, List.take_take, Nat.min_eq_left (by omega)]
  · rw [if_neg h, List.drop_append, List.drop_of_length_le (by omega), List.nil_append, hl, List.drop_drop]
    congr 2
    omega
theorem erase_parcs {F : Option Addr → Nat → Parc → Prop} {qs : List Parc} {xs : List Value} {k : Nat} (hxl : xs.length = qs.length * 5) (hk : k < qs.length) (hx : ∀ i p, qs[i]? = some p → ∃ a c', (xs.drop (i * 5)).take 5 = parcL p a c' ∧ F a c' p) :
    ∀ i p, (qs.eraseIdx k)[i]? = some p → ∃ a c', ((xs.take (k * 5) ++ xs.drop ((k + 1) * 5)).drop (i * 5)).take 5 = parcL p a c' ∧ F a c' p := fun i p hi => by
  have hlen : (qs.eraseIdx k).length = qs.length - 1 := by rw [List.length_eraseIdx]; simp [hk]
  have hil : i < qs.length - 1 := by have := (List.getElem?_eq_some_iff.1 hi).1; omega
  rw [erase_row xs qs.length k i hxl hk hil]
  rw [List.getElem?_eraseIdx] at hi
  by_cases h : i < k
  · rw [if_pos h] at hi ⊢; exact hx i p hi
  · rw [if_neg h] at hi ⊢; exact hx (i + 1) p hi
theorem gr_setCells5 (w : World) (g : Nat) : ∀ (vs : List Value) (o : Nat), w.grownBy (w.setCells g o vs) (some g)
  | [], _ => grown_same w _
  | v :: r, o => by
    rw [World.setCells]
    have h1 : w.grownBy (w.setCell ⟨g, o, none⟩ v) (some g) := ⟨rfl, rfl, rfl, by simp, fun k _ hk => heap_setCell_other w ⟨g, o, none⟩ k v (fun e => hk (by simp [e]))⟩
    have h2 := gr_setCells5 (w.setCell ⟨g, o, none⟩ v) g r (o + 1)
    exact ⟨h2.os.trans h1.os, h2.tape.trans h1.tape, h2.output.trans h1.output, Nat.le_trans h1.size h2.size, fun k hk hne => (h2.block k (Nat.lt_of_lt_of_le hk h1.size) hne).trans (h1.block k hk hne)⟩
def zeroP : List Value := [.int .i64 0, .int .i64 0, .int .i64 0, .int .i64 0, .slice none 0 0]
theorem run_clear_parcel (w : World) (ty : TypeId) (b o c : Nat) (hc : ∀ j, j < 5 → (w.cell? ⟨b, o + j, none⟩).isSome = true) (hf : ∀ j, j < 5 → w.frozen? ⟨b, o + j, none⟩ = false) :
    (Builtin.clear_ #[22] ty #[.slice (some ⟨b, o, none⟩) 1 c]).run Try.prog w = .ok (.tuple #[]) (w.setCells b o zeroP) := by
  have hv : ∀ w, (zeroValue 52).run Try.prog w = .ok (.agg zeroP.toArray) w := fun w => by kernel_rfl
  have hz : (Builtin.zeroCells (Value.agg zeroP.toArray).cells 1).toList = zeroP := by kernel_rfl
  have hst := run_storeCells_cells (P := Try.prog) b o zeroP 0 w (fun j hj => hc j hj) (fun j hj => hf j hj) (by simp [zeroP, Value.oneCell'])
  simp only [Nat.add_zero] at hst
  simp [Builtin.clear_, run_underlying Try.underlying22, hv, hz, hst]
def Deleted (w w' : World) (g k : Nat) (n : Nat) (xs : List Value) : Prop :=
  (∀ j u, (xs.take (k * 5) ++ xs.drop ((k + 1) * 5))[j]? = some u → w'.cell? ⟨g, j, none⟩ = some u) ∧ w.grownBy w' (some g) ∧
    ∀ base n c xs, w.ownsRow base 52 5 (.slice (some ⟨g, 0, none⟩) n c) n xs → ∃ ys, w'.ownsRow base 52 5 (.slice (some ⟨g, 0, none⟩) n c) n ys
theorem own_setCells_in {base : Nat} {e : TypeId} {size n cap g : Nat} : ∀ (vs : List Value) (o : Nat) {w : World} {xs : List Value}, w.ownsRow base e size (.slice (some ⟨g, 0, none⟩) n cap) n xs → ∃ ys, (w.setCells g o vs).ownsRow base e size (.slice (some ⟨g, 0, none⟩) n cap) n ys
  | [], _, _, xs, h => ⟨xs, h⟩
  | v :: r, o, _, _, h => own_setCells_in r (o + 1) (h.stored o v).1
theorem own_shrink {base : Nat} {e : TypeId} {size n m cap g : Nat} {w : World} {xs : List Value} (h : w.ownsRow base e size (.slice (some ⟨g, 0, none⟩) n cap) n xs) (hm : m ≤ n) : w.ownsRow base e size (.slice (some ⟨g, 0, none⟩) m cap) m (xs.take (m * size)) := by
  have hms : m * size ≤ n * size := Nat.mul_le_mul_right _ hm
  obtain ⟨hl, ⟨h1, h2⟩ | ⟨g', cap', cur, hv, hb, hh, hnc, hcm, hcs, ht⟩⟩ := h
  · cases h1
  · injection hv with h1 h2 h3
    injection h1 with h1
    injection h1 with h1
    subst h1 h3
    refine ⟨by rw [List.length_take]; omega, .inr ⟨g, cap, cur, rfl, hb, hh, by omega, hcm, hcs, ?_⟩⟩
    rw [← ht, List.take_take, Nat.min_eq_left hms]
theorem deleted_of {w : World} {g k n : Nat} {xs : List Value} (hxl : xs.length = n * 5) (hk : k < n) (hc : ∀ j, j < n * 5 → w.cell? ⟨g, j, none⟩ = xs[j]?) (q : Nat) :
    Deleted w (((w.drewN q).setCells g (k * 5) (xs.drop ((k + 1) * 5))).setCells g ((n - 1) * 5) zeroP) g k n xs := by
  have hnl : (xs.drop ((k + 1) * 5)).length = (n - 1) * 5 - k * 5 := by rw [List.length_drop]; omega
  refine ⟨fun j u hu => ?_, ?_, fun base n' c xs' h => ?_⟩
  rotate_left 2
  · obtain ⟨ys, hy⟩ := own_setCells_in (w := w.drewN q) (xs.drop ((k + 1) * 5)) (k * 5) h
    exact own_setCells_in zeroP ((n - 1) * 5) hy
  · have hj : j < (n - 1) * 5 := by
      have := (List.getElem?_eq_some_iff.1 hu).1
      rw [erase_len xs n k hxl hk] at this
      exact this
    rw [World.cell?_setCells_out g _ _ _ _ (fun _ _ => .inl hj)]
    have hl : (xs.take (k * 5)).length = k * 5 := by rw [List.length_take]; omega
    by_cases h : j < k * 5
    · rw [World.cell?_setCells_out g _ _ _ _ (fun _ _ => .inl h)]
      rw [List.getElem?_append_left (by omega), List.getElem?_take, if_pos h] at hu
      exact (hc j (by omega)).trans hu
    · rw [List.getElem?_append_right (by omega), hl] at hu
      have hin := World.cell?_setCells_in g (xs.drop ((k + 1) * 5)) (k * 5) (w.drewN q) (fun i hi => by
        rw [show (w.drewN q).cell? ⟨g, k * 5 + i, none⟩ = w.cell? ⟨g, k * 5 + i, none⟩ from rfl, hc _ (by omega), List.getElem?_eq_getElem (by omega)]; rfl) (j - k * 5) (by omega)
      rw [show k * 5 + (j - k * 5) = j by omega] at hin
      rw [hin, ← hu, List.getElem?_eq_getElem (by omega)]
  · have h1 := gr_setCells5 (w.drewN q) g (xs.drop ((k + 1) * 5)) (k * 5)
    have h2 := gr_setCells5 ((w.drewN q).setCells g (k * 5) (xs.drop ((k + 1) * 5))) g zeroP ((n - 1) * 5)
    have hs : w.heap.size = (w.drewN q).heap.size := rfl
    exact ⟨h2.os.trans h1.os, h2.tape.trans h1.tape, h2.output.trans h1.output, Nat.le_trans h1.size h2.size, fun i hi hne => (h2.block i (Nat.lt_of_lt_of_le hi h1.size) hne).trans (h1.block i hi hne)⟩
set_option maxRecDepth 100000 in
set_option maxHeartbeats 4000000 in
theorem delete_any (g c n k j : Nat) (hj : Hid (j = k + 1)) (xs : List Value) (base : Nat) (w : World) (ho : w.ownsRow base 52 5 (.slice (some ⟨g, 0, none⟩) n c) n xs) (hk : k < n) (hnc : n ≤ c) (hcm : c ≤ 9223372036854775807) (h1 : ∀ u ∈ xs, u.oneCell' = true) :
    Calls Try.prog 27 #[.slice (some ⟨g, 0, none⟩) n c, .int .i64 (k : Int), .int .i64 (j : Int)] w fun e w' => e = .returned (.slice (some ⟨g, 0, none⟩) (n - 1) c) ∧ Deleted w w' g k n xs := by
  have hxl : xs.length = n * 5 := ho.1
  have HC := Lib.hid (fun j (hj : j < n * 5) => ho.cellAt j hj)
  have HF := Lib.hid (fun j => ho.frozenAt j)
  have HXL := Lib.hid hxl
  have hkj : k < j := by have := hj.out; omega
  have hjn : j ≤ n := by have := hj.out; omega
  obtain ⟨i0, hi0, hz0, hz1, hz2⟩ := info_parts elemParcs.info
  obtain ⟨news, hnews⟩ : ∃ news, xs.drop ((k + 1) * 5) = news := ⟨_, rfl⟩
  have hnl : news.length = (n - j) * 5 := by rw [← hnews, List.length_drop]; have := hj.out; omega
  have hget : ∀ t, t < (n - j) * 5 → news[t]? = xs[j * 5 + t]? := fun t ht => by rw [← hnews, List.getElem?_drop, hj.out]
  obtain ⟨A, hA, hsrc⟩ : ∃ A : Addr, (if c = j then (some ⟨g, 0, none⟩ : Option Addr) else some ⟨g, j * 5, none⟩) = some A ∧ Hid (∀ q t u, news[t]? = some u → (w.drewN q).cell? (A.add t) = some u) := by
    by_cases h : c = j
    · refine ⟨⟨g, 0, none⟩, by simp [h], Lib.hid fun q t u hu => ?_⟩
      have := (List.getElem?_eq_some_iff.1 hu).1
      omega
    · refine ⟨⟨g, j * 5, none⟩, by simp [h], Lib.hid fun q t u hu => ?_⟩
      have ht := (List.getElem?_eq_some_iff.1 hu).1
      rw [hget t (by omega)] at hu
      rw [Addr.add_lit]
      exact (HC.out (j * 5 + t) (by have := hj.out; omega)).trans hu
  have HSRC := hsrc
  clear hsrc
  have HNL := Lib.hid hnl
  have HN1 := Lib.hid (show ∀ u ∈ news, u.oneCell' = true from fun u hu => h1 u (by rw [← hnews] at hu; exact List.mem_of_mem_drop hu))
  have HSP := Lib.hid (show ∀ q t, t < news.length → ((w.drewN q).cell? ⟨g, 0 + k * 5 + t, none⟩).isSome = true ∧ (w.drewN q).frozen? ⟨g, 0 + k * 5 + t, none⟩ = false from fun q t ht => by
    rw [Nat.zero_add]
    refine ⟨?_, HF.out _⟩
    show (w.cell? _).isSome = true
    rw [HC.out _ (by have := hj.out; omega), List.getElem?_eq_getElem (by have := hj.out; omega)]; rfl)
  have HNW := Lib.hid hnews
  have hkc : k ≤ c := by omega
  have hjc : j ≤ c := by omega
  have hkr : k + (n - j) ≤ c := by omega
  obtain ⟨W1, hW1⟩ : ∃ W1, W1 = w.drew.setCells g (0 + k * 5) news := ⟨_, rfl⟩
  have HW := Lib.hid hW1
  have hne : ¬ c = k + (n - j) := by omega
  have hen : n - (k + (n - j)) = 1 := by have := hj.out; omega
  have hcl : ∀ ty, (Builtin.clear_ #[22] ty #[.slice (some ⟨g, (k + (n - j)) * 5, none⟩) (n - (k + (n - j))) (c - (k + (n - j)))]).run Try.prog W1 = .ok (.tuple #[]) (W1.setCells g ((k + (n - j)) * 5) zeroP) := fun ty => by
    rw [hen]
    have hb : ∀ t, t < 5 → (w.cell? ⟨g, (k + (n - j)) * 5 + t, none⟩).isSome = true := fun t ht => by
      rw [HC.out _ (by have := hj.out; omega), List.getElem?_eq_getElem (by have := hj.out; omega)]; rfl
    refine run_clear_parcel W1 ty g _ _ (fun t ht => ?_) (fun t ht => ?_)
    · rw [hW1, World.cell?_setCells_out g _ _ _ _ (fun _ _ => .inr (by show 0 + k * 5 + news.length ≤ (k + (n - j)) * 5 + t; omega))]
      exact hb t ht
    · rw [hW1, World.frozen?_setCells]; exact HF.out _
  clear ho h1 hxl hnews hnl hget hW1 hen
  go_enter Try.func27, Try.ntmps27
  go_upto_region 5 with fail
  go_region_law (refine step_append_room rfl (.tmp 22) (.tmp 25) 22 rfl 52 i0 5 Try.underlying22 hi0 hz1 g 0 k c (by simp [Act.eval, Act.put]) A (n - j) (c - j) news (by simp [Act.eval, Act.put]) HNL.out (HSRC.out _) HN1.out hkr (HSP.out 1) ?_; rw [← HW.out])
  go_wp2_with fail
  go_ret
  refine ⟨by rw [show n - 1 = k + (n - j) by have := hj.out; omega]; rfl, ?_⟩
  rw [HW.out, ← HNW.out, show (k + (n - j)) * 5 = (n - 1) * 5 by have := hj.out; omega, Nat.zero_add]
  exact deleted_of HXL.out hk HC.out 1
theorem rows_one {F : Option Addr → Nat → Parc → Prop} {qs : List Parc} {xs : List Value} (hxl : xs.length = qs.length * 5) (hx : ∀ i p, qs[i]? = some p → ∃ a c', (xs.drop (i * 5)).take 5 = parcL p a c' ∧ F a c' p) : ∀ u ∈ xs, u.oneCell' = true := fun u hu => by
  obtain ⟨j, hj, e⟩ := List.getElem_of_mem hu
  have hi : j / 5 < qs.length := by omega
  obtain ⟨a, c', h1, _⟩ := hx (j / 5) qs[j / 5] (List.getElem?_eq_getElem hi)
  have h2 : ((xs.drop (j / 5 * 5)).take 5)[j % 5]? = some u := by
    rw [List.getElem?_take, if_pos (by omega), List.getElem?_drop, show j / 5 * 5 + j % 5 = j by omega, List.getElem?_eq_getElem hj, e]
  rw [h1] at h2
  have h3 := List.mem_of_getElem? h2
  simp only [parcL, List.mem_cons, List.not_mem_nil, or_false] at h3
  rcases h3 with rfl | rfl | rfl | rfl | rfl <;> rfl
theorem OwnD.addr {w : World} {base : Nat} {A : Option Addr} {c : Nat} {qs : List Parc} (h : OwnD w base A c qs) (hn : 0 < qs.length) : ∃ g, A = some ⟨g, 0, none⟩ ∧ base ≤ g ∧ g < w.heap.size ∧ qs.length ≤ c ∧ c ≤ maxLen := by
  obtain ⟨xs, cut, ho, hc, hx⟩ := h
  have hlt := ho.lt
  rcases ho.2 with ⟨_, h0⟩ | ⟨g, cap, cur, hv, hb, hg, hnc, hcm, _⟩
  · omega
  · injection hv with h1 h2 h3
    subst h1 h3
    exact ⟨g, rfl, hb, (hlt g rfl).2, hnc, hcm⟩
def ParcsLo (w : World) (lo B : Nat) (A : Option Addr) (ps : List Parc) : Prop :=
  ∃ xs, Rd w B 5 A ps.length xs ∧ (∀ a, A = some a → lo ≤ a.block) ∧ ∀ i p, ps[i]? = some p → ∃ a c, (xs.drop (i * 5)).take 5 = parcL p a c ∧ (∀ ad, a = some ad → lo ≤ ad.block) ∧ (a = none → c = 0) ∧ p.bs.length ≤ c ∧ p.bs.length ≤ 140737488351232 ∧ Rd w B 1 a p.bs.length (bytesV p.bs)
theorem ParcsLo.at {w : World} {lo B : Nat} {A : Option Addr} {ps : List Parc} (h : ParcsLo w lo B A ps) : ParcsAt w B A ps := by
  obtain ⟨xs, hr, _, hx⟩ := h
  refine ⟨xs, hr, fun i p hp => ?_⟩
  obtain ⟨a, c, h1, _, h2⟩ := hx i p hp
  exact ⟨a, c, h1, h2⟩
theorem ParcsLo.keep {w w' : World} {lo B B' : Nat} {A : Option Addr} {ps : List Parc} (h : ParcsLo w lo B A ps) (hB : B ≤ B') (hk : ∀ b o, lo ≤ b → b < B → w'.cell? ⟨b, o, none⟩ = w.cell? ⟨b, o, none⟩) : ParcsLo w' lo B' A ps := by
  have hrd : ∀ {size n : Nat} {A : Option Addr} {xs : List Value}, Rd w B size A n xs → (∀ a, A = some a → lo ≤ a.block) → Rd w' B' size A n xs := fun h hlo =>
    ⟨h.1, fun hn => let ⟨b, o, e, hb, hc⟩ := h.2 hn; ⟨b, o, e, Nat.lt_of_lt_of_le hb hB, fun j u hu => (hk b _ (hlo _ e) hb).trans (hc j u hu)⟩⟩
  obtain ⟨xs, hr, hlo, hx⟩ := h
  refine ⟨xs, hrd hr hlo, hlo, fun i p hp => ?_⟩
  obtain ⟨a, c, h1, h2, h3, h4, h5, h6⟩ := hx i p hp
  exact ⟨a, c, h1, h2, h3, h4, h5, hrd h6 h2⟩
theorem ParcsLo.setCell {w : World} {lo B : Nat} {A : Option Addr} {ps : List Parc} (h : ParcsLo w lo B A ps) {g : Nat} (hg : g < lo) (i : Nat) (u : Value) : ParcsLo (w.setCell ⟨g, i, none⟩ u) lo B A ps := h.keep (Nat.le_refl _) fun b o hb _ => World.cell?_setCell_other _ _ _ _ (fun e => by injection e with e1; omega)
theorem ParcsLo.setRow {w : World} {lo B : Nat} {A : Option Addr} {ps : List Parc} (h : ParcsLo w lo B A ps) {g : Nat} (hg : g < lo) (R : Array Value) : ParcsLo (w.setRow g R) lo B A ps := h.keep (Nat.le_refl _) fun b o hb _ => by
  have := setRow_other w g b R (by omega)
  simp only [World.cell?, this]
theorem OwnD.lo {w : World} {base : Nat} {A : Option Addr} {c : Nat} {ps : List Parc} (h : OwnD w base A c ps) : ParcsLo w base w.heap.size A ps := by
  obtain ⟨xs, cut, ho, hc, hx⟩ := h
  refine ⟨xs, Rd.of_own ho, own_lo ho, fun i p hp => ?_⟩
  obtain ⟨a, c', h1, h2, h3, h4⟩ := hx i p hp
  exact ⟨a, c', h1, fun ad e => Nat.le_trans (hc.base i) (own_lo h2 ad e), (Mem.own_cap h2).1, (Mem.own_cap h2).2, h4, Rd.of_own h2⟩
theorem deleted_parcs {w : World} {base g c : Nat} {qs : List Parc} (h : OwnD w base (some ⟨g, 0, none⟩) c qs) {k : Nat} (hk : k < qs.length) : ∃ xs, w.ownsRow base 52 5 (.slice (some ⟨g, 0, none⟩) qs.length c) qs.length xs ∧ (∀ u ∈ xs, u.oneCell' = true) ∧
    ∀ w', Deleted w w' g k qs.length xs → ParcsLo w' base w'.heap.size (some ⟨g, 0, none⟩) (qs.eraseIdx k) ∧ (∀ B W, B ≤ base → Below B W w → Below B W w') ∧ OwnParcs w' base (some ⟨g, 0, none⟩) c (qs.eraseIdx k) := by
  obtain ⟨xs, cut, ho, hc, hx⟩ := h
  have hne : 52 ≠ 5 := by decide
  refine ⟨xs, ho, rows_one (F := fun _ _ _ => True) ho.1 (fun i p hp => let ⟨a, c', h1, _⟩ := hx i p hp; ⟨a, c', h1, trivial⟩), fun w' hd => ⟨?_, fun B W hB hb => ?_, ?_⟩⟩
  · have hlen : (qs.eraseIdx k).length = qs.length - 1 := by rw [List.length_eraseIdx]; simp [hk]
    refine ⟨xs.take (k * 5) ++ xs.drop ((k + 1) * 5), ⟨by rw [hlen]; exact erase_len xs _ k ho.1 hk, fun _ => ⟨g, 0, rfl, Nat.lt_of_lt_of_le (ho.lt g rfl).2 hd.2.1.size, fun j u hu => by rw [Nat.zero_add]; exact hd.1 j u hu⟩⟩, own_lo ho, ?_⟩
    refine erase_parcs (F := fun a c p => (∀ ad, a = some ad → base ≤ ad.block) ∧ (a = none → c = 0) ∧ p.bs.length ≤ c ∧ p.bs.length ≤ 140737488351232 ∧ Rd w' w'.heap.size 1 a p.bs.length (bytesV p.bs)) ho.1 hk fun i p hp => ?_
    obtain ⟨a, c', h1, h2, h3, h4⟩ := hx i p hp
    have h5 := Ms.own_kept h2 hd.2.1 (Ms.own_is ho hne)
    exact ⟨a, c', h1, fun ad e => Nat.le_trans (hc.base i) (own_lo h2 ad e), (Mem.own_cap h5).1, (Mem.own_cap h5).2, h4, Rd.of_own h5⟩
  · exact hb.grown hd.2.1 (by have := (ho.lt g rfl).2; have := (ho.lt g rfl).1; omega) (fun x e => by
      have e : some g = some x := e
      injection e with e
      have := (ho.lt g rfl).1
      omega)
  · have hlen : (qs.eraseIdx k).length = qs.length - 1 := by rw [List.length_eraseIdx]; simp [hk]
    obtain ⟨ys, hy⟩ := hd.2.2 _ _ _ _ ho
    have hy1 := own_shrink hy (show qs.length - 1 ≤ qs.length by omega)
    have hxe : ys.take ((qs.length - 1) * 5) = xs.take (k * 5) ++ xs.drop ((k + 1) * 5) := by
      have hl2 := erase_len xs qs.length k ho.1 hk
      refine List.ext_getElem? fun j => ?_
      by_cases hj : j < (qs.length - 1) * 5
      · have h1 := hd.1 j _ (List.getElem?_eq_getElem (show j < (xs.take (k * 5) ++ xs.drop ((k + 1) * 5)).length by omega))
        rw [List.getElem?_eq_getElem (show j < (xs.take (k * 5) ++ xs.drop ((k + 1) * 5)).length by omega), ← h1, hy1.cellAt j hj]
      · rw [List.getElem?_eq_none (by rw [hy1.1]; omega), List.getElem?_eq_none (by omega)]
    rw [hxe] at hy1
    refine ⟨xs.take (k * 5) ++ xs.drop ((k + 1) * 5), by rw [hlen]; exact hy1, ?_⟩
    refine erase_parcs (F := fun a c p => w'.ownsRow base 5 1 (.slice a p.bs.length c) p.bs.length (bytesV p.bs) ∧ p.bs.length ≤ 140737488351232) ho.1 hk fun i p hp => ?_
    obtain ⟨a, c', h1, h2, h3, h4⟩ := hx i p hp
    exact ⟨a, c', h1, own_weaken (Ms.own_kept h2 hd.2.1 (Ms.own_is ho hne)) (hc.base i), h4⟩
theorem OwnD.grown {w w' : World} {base : Nat} {A : Option Addr} {c : Nat} {ps : List Parc} (h : OwnD w base A c ps) {row : Option Nat} (hg : w.grownBy w' row) (hr : ∀ x, row = some x → ∃ cur t, w.heap[x]? = some (.cells cur t (0, 0)) ∧ t ≠ 52 ∧ t ≠ 5) : OwnD w' base A c ps := by
  obtain ⟨xs, cut, ho, hc, hx⟩ := h
  refine ⟨xs, cut, Ms.own_kept ho hg (fun x e => let ⟨cur, t, h1, h2, _⟩ := hr x e; ⟨cur, t, h1, h2⟩), ⟨hc.1, hc.2.1, Nat.le_trans hc.2.2 hg.size⟩, fun i p hp => ?_⟩
  obtain ⟨a, c', h1, h2, h3, h4⟩ := hx i p hp
  exact ⟨a, c', h1, Ms.own_kept h2 hg (fun x e => let ⟨cur, t, g1, _, g2⟩ := hr x e; ⟨cur, t, g1, g2⟩), h3, h4⟩
theorem gr_setRow5 (w : World) (g : Nat) (R : Array Value) : w.grownBy (w.setRow g R) (some g) :=
  have hb := below_setRow (Below.refl 0 w) (Nat.zero_le g) R
  ⟨hb.os, hb.tape, hb.output, hb.size, fun k _ hne => setRow_other w g k R (fun e => hne (by rw [e]))⟩
theorem moved_of {w : World} {g k n : Nat} {xs : List Value} (hxl : xs.length = n * 5) (hk : k < n) (hc : ∀ j, j < n * 5 → w.cell? ⟨g, j, none⟩ = xs[j]?) (q : Nat) :
    Deleted w ((w.drewN q).setCells g (k * 5) (xs.drop ((k + 1) * 5))) g k n xs := by
  have hnl : (xs.drop ((k + 1) * 5)).length = (n - 1) * 5 - k * 5 := by rw [List.length_drop]; omega
  refine ⟨fun j u hu => ?_, ?_, fun base n' c xs' h => ?_⟩
  rotate_left 2
  · exact own_setCells_in (w := w.drewN q) (xs.drop ((k + 1) * 5)) (k * 5) h
  · have hj : j < (n - 1) * 5 := by
      have := (List.getElem?_eq_some_iff.1 hu).1
      rw [erase_len xs n k hxl hk] at this
      exact this
    have hl : (xs.take (k * 5)).length = k * 5 := by rw [List.length_take]; omega
    by_cases h : j < k * 5
    · rw [World.cell?_setCells_out g _ _ _ _ (fun _ _ => .inl h)]
      rw [List.getElem?_append_left (by omega), List.getElem?_take, if_pos h] at hu
      exact (hc j (by omega)).trans hu
    · rw [List.getElem?_append_right (by omega), hl] at hu
      have hin := World.cell?_setCells_in g (xs.drop ((k + 1) * 5)) (k * 5) (w.drewN q) (fun i hi => by
        rw [show (w.drewN q).cell? ⟨g, k * 5 + i, none⟩ = w.cell? ⟨g, k * 5 + i, none⟩ from rfl, hc _ (by omega), List.getElem?_eq_getElem (by omega)]; rfl) (j - k * 5) (by omega)
      rw [show k * 5 + (j - k * 5) = j by omega] at hin
      rw [hin, ← hu, List.getElem?_eq_getElem (by omega)]
  · have h1 := gr_setCells5 (w.drewN q) g (xs.drop ((k + 1) * 5)) (k * 5)
    exact ⟨h1.os, h1.tape, h1.output, h1.size, h1.block⟩
theorem move_facts {w : World} {base g c n k j : Nat} {xs : List Value} (ho : w.ownsRow base 52 5 (.slice (some ⟨g, 0, none⟩) n c) n xs) (hk : k < n) (hnc : n ≤ c) (h1 : ∀ u ∈ xs, u.oneCell' = true) (hj : Hid (j = k + 1)) :
    ∃ A news, Hid (xs.drop ((k + 1) * 5) = news) ∧ (if c = j then (some ⟨g, 0, none⟩ : Option Addr) else some ⟨g, j * 5, none⟩) = some A ∧ Hid (news.length = (n - j) * 5) ∧ Hid (∀ q t u, news[t]? = some u → (w.drewN q).cell? (A.add t) = some u) ∧ Hid (∀ u ∈ news, u.oneCell' = true) ∧ Hid (∀ q t, t < news.length → ((w.drewN q).cell? ⟨g, 0 + k * 5 + t, none⟩).isSome = true ∧ (w.drewN q).frozen? ⟨g, 0 + k * 5 + t, none⟩ = false) ∧ k < j ∧ k ≤ c ∧ j ≤ c ∧ j ≤ n ∧ k + (n - j) ≤ c := by
  have hj := hj.out
  have hxl : xs.length = n * 5 := ho.1
  have hnl : (xs.drop ((k + 1) * 5)).length = (n - j) * 5 := by rw [List.length_drop]; omega
  obtain ⟨A, hA, hsrc⟩ : ∃ A : Addr, (if c = j then (some ⟨g, 0, none⟩ : Option Addr) else some ⟨g, j * 5, none⟩) = some A ∧ (∀ (q : Nat) t u, (xs.drop ((k + 1) * 5))[t]? = some u → (w.drewN q).cell? (A.add t) = some u) := by
    by_cases h : c = j
    · refine ⟨⟨g, 0, none⟩, by simp [h], fun q t u hu => ?_⟩
      have := (List.getElem?_eq_some_iff.1 hu).1
      omega
    · refine ⟨⟨g, j * 5, none⟩, by simp [h], fun q t u hu => ?_⟩
      have ht := (List.getElem?_eq_some_iff.1 hu).1
      rw [List.getElem?_drop] at hu
      rw [Addr.add_lit]
      exact (ho.cellAt (j * 5 + t) (by omega)).trans (by rw [hj]; exact hu)
  refine ⟨A, _, Lib.hid rfl, hA, Lib.hid hnl, Lib.hid hsrc, Lib.hid (fun u hu => h1 u (List.mem_of_mem_drop hu)), Lib.hid (fun q t ht => ?_), by omega, by omega, by omega, by omega, by omega⟩
  rw [Nat.zero_add]
  refine ⟨?_, ho.frozenAt _⟩
  show (w.cell? _).isSome = true
  rw [ho.cellAt _ (by omega), List.getElem?_eq_getElem (by omega)]; rfl
end Go.Proofs.Ytlcpackmoolngaa.Bu
namespace Go.Proofs.Ytlcpackmoolngaa.Bu
open Go.ChangeShapes Go.WideShapes Go.ChangeAt Go.RowKit Go.Proofs.Ytlcpackmoolngaa.Mem Go.Proofs.Ytlcpackmoolngaa.Op Go.Proofs.Ytlcpackmoolngaa.Sm Go.Proofs.Ytlcpackmoolngaa.Nd Go.Proofs.Ytlcpackmoolngaa.Rws
set_option linter.unusedVariables false
set_option linter.unusedSimpArgs false
def xorB (x m : Nat) : Nat := (bits .xor .u8 (x : Int) (m : Int)).toNat
theorem xorB_int (x m : Nat) : bits .xor .u8 (x : Int) (m : Int) = (xorB x m : Int) := by
  unfold xorB
  rw [Int.toNat_of_nonneg]
  exact wrap_u8_nonneg _
def turnP (p : Parc) (t m : Nat) : Parc := { p with bs := p.bs.set t (xorB (p.bs.getD t 0) m) }
open Classical in
noncomputable def turnR (now ser0 : Int) (qs : List Parc) (s at_ m : Int) : Int × Int × List Parc × Int :=
  match fnd s qs with
  | none => (0, 0, [], 7)
  | some k => if at_ < 0 ∨ ((qs.getD k default).bs.length : Int) ≤ at_ ∨ m < 0 ∨ 255 < m then (0, 0, [], 3)
    else (now, ser0, qs.set k (turnP (qs.getD k default) at_.toNat m.toNat), 0)
theorem turnR_none {now ser0 : Int} {qs : List Parc} {s at_ m : Int} (h : fnd s qs = none) : turnR now ser0 qs s at_ m = (0, 0, [], 7) := by unfold turnR; rw [h]
theorem turnR_bad {now ser0 : Int} {qs : List Parc} {s at_ m : Int} {k : Nat} {p : Parc} (h : fnd s qs = some k) (hp : qs[k]? = some p) (hb : at_ < 0 ∨ (p.bs.length : Int) ≤ at_ ∨ m < 0 ∨ 255 < m) : turnR now ser0 qs s at_ m = (0, 0, [], 3) := by
  unfold turnR
  rw [h]
  have e : qs.getD k default = p := by rw [List.getD_eq_getElem?_getD, hp]; rfl
  show (if _ then _ else _) = _
  rw [e, if_pos hb]
theorem turnR_good {now ser0 : Int} {qs : List Parc} {s : Int} {k t m : Nat} {p : Parc} (h : fnd s qs = some k) (hp : qs[k]? = some p) (ht : t < p.bs.length) (hm : m ≤ 255) : turnR now ser0 qs s (t : Int) (m : Int) = (now, ser0, qs.set k (turnP p t m), 0) := by
  unfold turnR
  rw [h]
  have e : qs.getD k default = p := by rw [List.getD_eq_getElem?_getD, hp]; rfl
  show (if _ then _ else _) = _
  rw [e, if_neg (by omega)]
  rfl
theorem turn_len (p : Parc) (t m : Nat) : (turnP p t m).bs.length = p.bs.length := by simp [turnP]
theorem bytesV_set (bs : List Nat) (t x : Nat) : bytesV (bs.set t x) = (bytesV bs).set t (.int .u8 (x : Int)) := by simp [bytesV, List.map_set]
theorem OwnD.turn {w : World} {base g c : Nat} {qs : List Parc} (h : OwnD w base (some ⟨g, 0, none⟩) c qs) {k : Nat} {p : Parc} (hp : qs[k]? = some p) {t : Nat} (ht : t < p.bs.length) :
    ∃ gb cb, w.cell? ⟨g, k * 5 + 4, none⟩ = some (.slice (some ⟨gb, 0, none⟩) p.bs.length cb) ∧ base ≤ gb ∧ gb < w.heap.size ∧ w.cell? ⟨gb, t, none⟩ = some (.int .u8 ((p.bs.getD t 0 : Nat) : Int)) ∧ w.frozen? ⟨gb, t, none⟩ = false ∧ (∃ cur, w.heap[gb]? = some (.cells cur 5 (0, 0))) ∧
      ∀ m : Nat, OwnD (w.setCell ⟨gb, t, none⟩ (.int .u8 (xorB (p.bs.getD t 0) m : Int))) base (some ⟨g, 0, none⟩) c (qs.set k (turnP p t m)) := by
  obtain ⟨xs, cut, ho, hc, hx⟩ := h
  have hne : 52 ≠ 5 := by decide
  obtain ⟨a, cb, h1, h2, h3, h4⟩ := hx k p hp
  have hlt2 := h2.lt
  have hk : k < qs.length := (List.getElem?_eq_some_iff.1 hp).1
  obtain ⟨gb, rfl, cur, hcur⟩ : ∃ gb, a = some ⟨gb, 0, none⟩ ∧ ∃ cur, w.heap[gb]? = some (.cells cur 5 (0, 0)) := by
    rcases h2.2 with ⟨_, h0⟩ | ⟨g1, cap, cur, hv, _, hg1, _⟩
    · omega
    · injection hv with e1 e2 e3
      exact ⟨g1, e1, cur, hg1⟩
  have hgb := hlt2 gb rfl
  have hge : gb < cut (k + 1) := h3 _ rfl
  have hgr : ∀ u, w.grownBy (w.setCell ⟨gb, t, none⟩ u) (some gb) := fun u => (h2.stored t u).2
  have hcell : w.cell? ⟨g, k * 5 + 4, none⟩ = some (.slice (some ⟨gb, 0, none⟩) p.bs.length cb) := by
    rw [ho.cellAt _ (by omega)]
    have e : ((xs.drop (k * 5)).take 5)[4]? = (parcL p (some ⟨gb, 0, none⟩) cb)[4]? := by rw [h1]
    rw [List.getElem?_take, if_pos (by omega), List.getElem?_drop] at e
    exact e
  refine ⟨gb, cb, hcell, Nat.le_trans (hc.base k) hgb.1, hgb.2, ?_, h2.frozenAt t, ⟨cur, hcur⟩, fun m => ?_⟩
  · rw [h2.cellAt t (by omega), bytesV_at p.bs t ht, List.getD_eq_getElem?_getD, List.getElem?_eq_getElem ht]
    rfl
  · have hset : (qs.set k (turnP p t m)).length = qs.length := by simp
    have ho2 := Ms.own_kept ho (hgr (.int .u8 (xorB (p.bs.getD t 0) m : Int))) (fun x e => by injection e with e; subst e; exact ⟨cur, _, hcur, fun e => hne e.symm⟩)
    refine ⟨xs, cut, by rw [hset]; exact ho2, ⟨hc.1, hc.2.1, ?_⟩, fun i q hq => ?_⟩
    · rw [hset]; exact Nat.le_trans hc.2.2 (hgr (.int .u8 (xorB (p.bs.getD t 0) m : Int))).size
    · by_cases e : i = k
      · subst e
        rw [List.getElem?_set_self (by omega)] at hq
        injection hq with hq
        subst hq
        have hst := (h2.stored t (.int .u8 (xorB (p.bs.getD t 0) m : Int))).1
        refine ⟨some ⟨gb, 0, none⟩, cb, ?_, ?_, h3, by rw [turn_len]; exact h4⟩
        · rw [h1]; unfold parcL; rw [turn_len]; rfl
        · rw [turn_len]; show World.ownsRow _ _ _ _ _ _ (bytesV (p.bs.set t _)); rw [bytesV_set]; exact hst
      · rw [List.getElem?_set_ne (by omega)] at hq
        obtain ⟨a', c', g1, g2, g3, g4⟩ := hx i q hq
        refine ⟨a', c', g1, g2.kept (hgr _) ?_, g3, g4⟩
        cases a' with
        | none => exact .inl rfl
        | some ad =>
          refine .inr fun e2 => ?_
          have e2 : some ad.block = some gb := e2
          injection e2 with e2
          have l1 := (g2.lt ad.block rfl).1
          have l2 := g3 ad rfl
          rcases Nat.lt_or_ge i k with h | h
          · have := hc.le (i + 1) k h; omega
          · have := hc.le (k + 1) i (by omega); omega
end Go.Proofs.Ytlcpackmoolngaa.Bu
namespace Go.Proofs.Ytlcpackmoolngaa.Bu
open Go.ChangeShapes Go.WideShapes Go.ChangeAt Go.RowKit Go.Proofs.Ytlcpackmoolngaa.Mem Go.Proofs.Ytlcpackmoolngaa.Op Go.Proofs.Ytlcpackmoolngaa.Sm Go.Proofs.Ytlcpackmoolngaa.Nd Go.Proofs.Ytlcpackmoolngaa.Rws
set_option linter.unusedVariables false
set_option linter.unusedSimpArgs false
set_option maxRecDepth 100000 in
set_option maxHeartbeats 4000000 in
theorem busturn_any (now ser0 : Int) (A : Option Addr) (c : Nat) (qs : List Parc) (s at_ m : Int) (B : Nat) (w : World) (hB : B ≤ w.heap.size) (hql : qs.length * 56 ≤ 140737488351232) (hq : ParcsAt w B A qs) :
    Calls Try.prog 12 #[.agg #[.int .i64 now, .int .i64 ser0, .slice A qs.length c], .int .i64 s, .int .i64 at_, .int .i64 m] w fun e w' => SendAs w w' (turnR now ser0 qs s at_ m) e := by
  have D1 := Lib.hid (show Blk ((w.alloc (.cells #[.int .i64 now, .int .i64 ser0, .slice A qs.length c] 24)).alloc (.cells #[.int .i64 0, .int .i64 0, .slice none 0 0] 24)) w.heap.size 24 #[.int .i64 now, .int .i64 ser0, .slice A qs.length c] from (Blk.new rfl).alloc _)
  have D2 := Lib.hid (show Blk ((w.alloc (.cells #[.int .i64 now, .int .i64 ser0, .slice A qs.length c] 24)).alloc (.cells #[.int .i64 0, .int .i64 0, .slice none 0 0] 24)) (w.heap.size + 1) 24 #[.int .i64 0, .int .i64 0, .slice none 0 0] from Blk.new (by simp))
  have HB := Lib.hid (((Below.refl w.heap.size w).alloc (Nat.le_refl _) (.cells #[.int .i64 now, .int .i64 ser0, .slice A qs.length c] 24)).alloc (by simp) (.cells #[.int .i64 0, .int .i64 0, .slice none 0 0] 24))
  have HQ := Lib.hid (hq.below (HB.out.mono hB))
  clear hq
  go_enter Try.func12, Try.ntmps12
  go_upto_region 1 with fail
  generalize ((w.alloc (.cells #[.int .i64 now, .int .i64 ser0, .slice A qs.length c] 24)).alloc (.cells #[.int .i64 0, .int .i64 0, .slice none 0 0] 24)) = W at *
  go_wp2_with (refine wpList_whole rfl 24 _ rfl w.heap.size rfl D1.out _ Try.underlying24 rfl (by kernel_rfl) ?_)
  refine (find_any now ser0 s A c qs B W (Nat.le_trans hB HB.out.size) (by omega) HQ.out).mono ?_
  rintro e w1 ⟨rfl, hb⟩
  have HQ := Lib.hid (HQ.out.below (hb.mono (Nat.le_trans hB HB.out.size)))
  have D1 := Lib.hid (D1.out.below hb D1.out.lt)
  have D2 := Lib.hid (D2.out.below hb D2.out.lt)
  have HB := Lib.hid (onward HB.out (Nat.le_refl _) hb)
  clear hb
  cases hf : fnd s qs with
  | none =>
    have hz : fndZ s qs = -1 := by unfold fndZ; rw [hf]
    rw [hz]
    have HF := Lib.hid hf
    clear hf hz
    have HLR := Lib.hid (turnR_none (now := now) (ser0 := ser0) (at_ := at_) (m := m) HF.out)
    go_wp2_with (refine wpList_store_row rfl 24 _ _ rfl (w.heap.size + 1) #[.int .i64 0, .int .i64 0, .slice none 0 0] rfl rfl 24 _ D2.out (by kernel_rfl) rfl (by simp [Value.oneCell']) ?_)
    refine ret_row2 (x := .int .i64 7) rfl rfl rfl (D2.out.setRow #[.int .i64 0, .int .i64 0, .slice none 0 0]) ⟨by rw [Try.underlying24], by kernel_rfl⟩ rfl ?_
    rw [HLR.out]
    exact ⟨none, 0, rfl, ParcsAt.nil _ _ _, below_setRow HB.out (by omega) _⟩
  | some k =>
    have hz : fndZ s qs = (k : Int) := by unfold fndZ; rw [hf]
    rw [hz]
    have hw1 : w.heap.size + 1 < w1.heap.size := D2.out.lt
    obtain ⟨p, hp, _⟩ := fnd_at hf
    have hkn : k < qs.length := (List.getElem?_eq_some_iff.1 hp).1
    have HM := Lib.hid hp
    have HF := Lib.hid hf
    have hnn : ¬ ((k : Int) < 0) := by omega
    have hk0 : (0 : Int) ≤ (k : Int) := by omega
    have hk1 : (k : Int) < (qs.length : Int) := by omega
    obtain ⟨b, o, a, ca, e, hbB, _, _, _, _, x4, h2, h3, h4, _⟩ := HQ.out.at hp
    subst e
    have y2 := D1.out.cell 2
    simp only [List.getElem?_toArray, List.getElem?_cons_zero, List.getElem?_cons_succ] at y2
    clear hf hz hp
    go_upto_region 4 with fail
    by_cases c1 : at_ < 0
    · skip
      have HLR := Lib.hid (turnR_bad (now := now) (ser0 := ser0) (m := m) HF.out HM.out (.inl c1))
      go_wp2_with (refine wpList_store_row rfl 24 _ _ rfl (w.heap.size + 1) #[.int .i64 0, .int .i64 0, .slice none 0 0] rfl rfl 24 _ D2.out (by kernel_rfl) rfl (by simp [Value.oneCell']) ?_)
      refine ret_row2 (x := .int .i64 3) rfl rfl rfl (D2.out.setRow #[.int .i64 0, .int .i64 0, .slice none 0 0]) ⟨by rw [Try.underlying24], by kernel_rfl⟩ rfl ?_
      rw [HLR.out]
      exact ⟨none, 0, rfl, ParcsAt.nil _ _ _, below_setRow HB.out (by omega) _⟩
    · obtain ⟨t, rfl⟩ := Int.eq_ofNat_of_zero_le (show 0 ≤ at_ by omega)
      by_cases c2 : (p.bs.length : Int) ≤ (t : Int)
      · skip
        have HLR := Lib.hid (turnR_bad (now := now) (ser0 := ser0) (m := m) HF.out HM.out (.inr (.inl c2)))
        go_wp2_with (refine wpList_store_row rfl 24 _ _ rfl (w.heap.size + 1) #[.int .i64 0, .int .i64 0, .slice none 0 0] rfl rfl 24 _ D2.out (by kernel_rfl) rfl (by simp [Value.oneCell']) ?_)
        refine ret_row2 (x := .int .i64 3) rfl rfl rfl (D2.out.setRow #[.int .i64 0, .int .i64 0, .slice none 0 0]) ⟨by rw [Try.underlying24], by kernel_rfl⟩ rfl ?_
        rw [HLR.out]
        exact ⟨none, 0, rfl, ParcsAt.nil _ _ _, below_setRow HB.out (by omega) _⟩
      · skip
        by_cases c3 : m < 0
        · skip
          have HLR := Lib.hid (turnR_bad (now := now) (ser0 := ser0) (at_ := (t : Int)) HF.out HM.out (.inr (.inr (.inl c3))))
          go_wp2_with (refine wpList_store_row rfl 24 _ _ rfl (w.heap.size + 1) #[.int .i64 0, .int .i64 0, .slice none 0 0] rfl rfl 24 _ D2.out (by kernel_rfl) rfl (by simp [Value.oneCell']) ?_)
          refine ret_row2 (x := .int .i64 3) rfl rfl rfl (D2.out.setRow #[.int .i64 0, .int .i64 0, .slice none 0 0]) ⟨by rw [Try.underlying24], by kernel_rfl⟩ rfl ?_
          rw [HLR.out]
          exact ⟨none, 0, rfl, ParcsAt.nil _ _ _, below_setRow HB.out (by omega) _⟩
        · obtain ⟨mm, rfl⟩ := Int.eq_ofNat_of_zero_le (show 0 ≤ m by omega)
          by_cases c4 : 255 < (mm : Int)
          · skip
            have HLR := Lib.hid (turnR_bad (now := now) (ser0 := ser0) (at_ := (t : Int)) HF.out HM.out (.inr (.inr (.inr c4))))
            go_wp2_with (refine wpList_store_row rfl 24 _ _ rfl (w.heap.size + 1) #[.int .i64 0, .int .i64 0, .slice none 0 0] rfl rfl 24 _ D2.out (by kernel_rfl) rfl (by simp [Value.oneCell']) ?_)
            refine ret_row2 (x := .int .i64 3) rfl rfl rfl (D2.out.setRow #[.int .i64 0, .int .i64 0, .slice none 0 0]) ⟨by rw [Try.underlying24], by kernel_rfl⟩ rfl ?_
            rw [HLR.out]
            exact ⟨none, 0, rfl, ParcsAt.nil _ _ _, below_setRow HB.out (by omega) _⟩
          · skip
            have HLR := Lib.hid (turnR_good (now := now) (ser0 := ser0) HF.out HM.out (show t < p.bs.length by omega) (show mm ≤ 255 by omega))
            go_wp2_with (refine wpList_whole rfl 24 _ rfl w.heap.size rfl D1.out _ Try.underlying24 rfl (by kernel_rfl) ?_)
            refine (copiedD_any now ser0 (some ⟨b, o, none⟩) c qs B w1 (Nat.le_trans hB HB.out.size) hql HQ.out).mono ?_
            rintro e w2 ⟨A2, c2, rfl, hod, hb⟩
            have D1 := Lib.hid (D1.out.below hb D1.out.lt)
            have D2 := Lib.hid (D2.out.below hb D2.out.lt)
            have HB := Lib.hid (onward HB.out (Nat.le_refl _) hb)
            have hlt1 := D2.out.lt
            obtain ⟨g, rfl, hg1, hg2, hnc, hcm⟩ := hod.addr (by omega)
            have HOD := Lib.hid hod
            clear hb hod HQ x4
            go_upto_region 7 with (refine wpList_store_row rfl 24 _ _ rfl w.heap.size #[.int .i64 now, .int .i64 ser0, .slice (some ⟨g, 0, none⟩) qs.length c2] rfl rfl 24 _ D1.out (by kernel_rfl) rfl (by simp [Value.oneCell']) ?_)
            have D2 := Lib.hid (D2.out.setRow_other (g' := w.heap.size) (by omega) #[.int .i64 now, .int .i64 ser0, .slice (some ⟨g, 0, none⟩) qs.length c2])
            have HOD := Lib.hid (HOD.out.keep (w' := w2.setRow w.heap.size #[.int .i64 now, .int .i64 ser0, .slice (some ⟨g, 0, none⟩) qs.length c2]) (Nat.le_refl _) (below_setRow (Below.refl 0 w2) (Nat.zero_le _) _).size fun _ _ _ _ _ _ hle h => own_setRow h (by omega) _)
            have D1 := Lib.hid (D1.out.setRow #[.int .i64 now, .int .i64 ser0, .slice (some ⟨g, 0, none⟩) qs.length c2])
            have HB := Lib.hid (below_setRow HB.out (Nat.le_refl _) #[.int .i64 now, .int .i64 ser0, .slice (some ⟨g, 0, none⟩) qs.length c2])
            generalize (w2.setRow w.heap.size #[.int .i64 now, .int .i64 ser0, .slice (some ⟨g, 0, none⟩) qs.length c2]) = w3 at *
            obtain ⟨gb, cb, z4, hgb1, hgb2, zb, fb, _, hod⟩ := HOD.out.turn HM.out (show t < p.bs.length by omega)
            have HOD := Lib.hid (hod mm)
            have hxo := xorB_int (p.bs.getD t 0) mm
            have hwm : IntKind.u8.wrap (mm : Int) = (mm : Int) := wraps_u8 _ (by omega) (by omega)
            have y2 := D1.out.cell 2
            simp only [List.getElem?_toArray, List.getElem?_cons_zero, List.getElem?_cons_succ] at y2
            have ht0 : (0 : Int) ≤ (t : Int) := by omega
            have ht1 : (t : Int) < (p.bs.length : Int) := by omega
            clear hod
            generalize p.bs.getD t 0 = x at *
            go_upto_region 8 with fail
            have D1 := Lib.hid (D1.out.other (p := ⟨gb, t, none⟩) (by show w.heap.size ≠ gb; omega) (.int .u8 (xorB x mm : Int)))
            have D2 := Lib.hid (D2.out.other (p := ⟨gb, t, none⟩) (by show w.heap.size + 1 ≠ gb; omega) (.int .u8 (xorB x mm : Int)))
            have HB := Lib.hid (HB.out.setCell (p := ⟨gb, t, none⟩) (by show w.heap.size ≤ gb; omega) (.int .u8 (xorB x mm : Int)))
            clear z4 zb fb y2 hgb2
            generalize (w3.setCell ⟨gb, t, none⟩ (.int .u8 (xorB x mm : Int))) = w5 at *
            go_wp2_with (first
              | (refine wpList_whole rfl 24 _ rfl w.heap.size rfl D1.out _ Try.underlying24 rfl (by kernel_rfl) ?_)
              | (refine wpList_store_row rfl 24 _ _ rfl (w.heap.size + 1) #[.int .i64 now, .int .i64 ser0, .slice (some ⟨g, 0, none⟩) qs.length c2] rfl rfl 24 _ D2.out (by kernel_rfl) rfl (by simp [Value.oneCell']) ?_))
            refine ret_row2 (x := .int .i64 0) rfl rfl rfl (D2.out.setRow #[.int .i64 now, .int .i64 ser0, .slice (some ⟨g, 0, none⟩) qs.length c2]) ⟨by rw [Try.underlying24], by kernel_rfl⟩ rfl ?_
            rw [HLR.out]
            exact ⟨some ⟨g, 0, none⟩, c2, by rw [List.length_set], (HOD.out.own.keep fun _ _ _ _ _ h => own_setRow h (by omega) _).at.1, below_setRow HB.out (by omega) _⟩
end Go.Proofs.Ytlcpackmoolngaa.Bu
