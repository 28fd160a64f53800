import Derived.Test.YtlcpackmoolngaaPk11
import Derived.Test.YtlcpackmoolngaaPk10
import Derived.Test.YtlcpackmoolngaaPk2
namespace Go.Proofs.Ytlcpackmoolngaa.Ss
open Go.Sort Go.Proofs.Ytlcpackmoolngaa.Stb Go.Proofs.Ytlcpackmoolngaa.Bu
set_option linter.unusedVariables false
theorem SortedOf.one {ps rs rs' : List Parc} (h : SortedOf ps rs) (h' : SortedOf ps rs') : rs = rs' := by
  obtain ⟨l, rfl, hp, hs⟩ := h
  obtain ⟨l', rfl, hp', hs'⟩ := h'
  have hn : (ps.zipIdx.map Prod.snd).Nodup := by
    rw [List.zipIdx_map_snd]
    exact List.nodup_range'
  rw [uniq (ltT_swo _ _) l l' (hp.trans hp'.symm) (strict_list hp hn hs) (strict_list hp' hn hs')]
theorem retag {l0 come : List (Parc × Nat)} (hr : l0.Pairwise fun x y => x.2 < y.2) (hp : come.Perm l0) (hs : come.Pairwise fun x y => ltT (fun p : Parc => p.d) (fun p => p.s) x y = true) : SortedOf (l0.map Prod.fst) (come.map Prod.fst) := by
  have hn : (l0.map Prod.snd).Nodup := by
    rw [List.Nodup, List.pairwise_map]
    exact hr.imp fun h => Nat.ne_of_lt h
  have hg : ∀ i (h : i < l0.length), (l0.map Prod.snd).idxOf (l0[i].2) = i := fun i h => by
    have := hn.idxOf_getElem i (by simpa using h)
    simpa using this
  refine ⟨come.map fun x => (x.1, (l0.map Prod.snd).idxOf x.2), by simp, ?_, ?_⟩
  · refine (hp.map _).trans (List.Perm.of_eq (List.ext_getElem (by simp) fun i h1 h2 => ?_))
    have hi : i < l0.length := by simpa using h1
    simp [hg i hi]
  · rw [List.pairwise_map]
    refine hs.imp_of_mem fun {x y} hx hy h => ?_
    obtain ⟨i, hi, rfl⟩ := List.mem_iff_getElem.1 (hp.mem_iff.1 hx)
    obtain ⟨j, hj, rfl⟩ := List.mem_iff_getElem.1 (hp.mem_iff.1 hy)
    simp only [ltT, decide_eq_true_eq] at h
    simp only [ltT, decide_eq_false_iff_not, hg i hi, hg j hj]
    have hij : l0[i].2 < l0[j].2 → i < j := fun h3 => by
      rcases Nat.lt_trichotomy i j with c | c | c
      · exact c
      · subst c; omega
      · have := List.pairwise_iff_getElem.1 hr j i hj hi c
        omega
    omega
theorem zip_rise (ps : List Parc) : ps.zipIdx.Pairwise fun x y => x.2 < y.2 := by
  rw [List.pairwise_iff_getElem]
  intro i j hi hj hij
  simp
  exact hij
theorem zip_filter (p : Parc → Bool) (ps : List Parc) : (ps.zipIdx.filter fun x => p x.1).map Prod.fst = ps.filter p := by
  have e : ps = ps.zipIdx.map Prod.fst := by simp
  conv => rhs; rw [e, List.filter_map]
  rfl
theorem sel_fin {due : Parc → Bool} {ps : List Parc} {come q : List (Parc × Nat)} (h : Sel (fun p : Parc => p.d) (fun p => p.s) due ps.zipIdx come q) (hq : ∀ x ∈ q, due x.1 = false) : SortedOf (ps.filter due) (come.map Prod.fst) ∧ q.map Prod.fst = ps.filter fun p => !due p := by
  obtain ⟨h1, h2, h3, h4, h5⟩ := h
  have e1 : (q.filter fun x => due x.1) = [] := List.filter_eq_nil_iff.2 fun x hx => by simp [hq x hx]
  have e2 : (q.filter fun x => !due x.1) = q := List.filter_eq_self.2 fun x hx => by simp [hq x hx]
  rw [e1, List.append_nil] at h4
  rw [e2] at h5
  refine ⟨?_, ?_⟩
  · rw [← zip_filter]
    exact retag ((zip_rise ps).sublist List.filter_sublist) h4 h2
  · rw [h5]
    exact zip_filter (fun p => !due p) ps
end Go.Proofs.Ytlcpackmoolngaa.Ss
namespace Go.Proofs.Ytlcpackmoolngaa.Ss
open Go.Sort Go.Proofs.Ytlcpackmoolngaa.Stb Go.Proofs.Ytlcpackmoolngaa.Bu
set_option linter.unusedVariables false
variable {β : Type} {k1 k2 : β → Int} {due : β → Bool} {q : List (β × Nat)}
def BestTo (k1 k2 : β → Int) (due : β → Bool) (q : List (β × Nat)) (k : Nat) (b : Int) : Prop :=
  (b = -1 ∧ ∀ j (h : j < q.length), j < k → due q[j].1 = false) ∨
  ∃ i, ∃ hi : i < q.length, b = (i : Int) ∧ i < k ∧ due q[i].1 = true ∧ ∀ j (h : j < q.length), j < k → due q[j].1 = true → (j < i → ltK k1 k2 q[i] q[j] = true) ∧ (i < j → ltK k1 k2 q[j] q[i] = false)
theorem BestTo.zero : BestTo k1 k2 due q 0 (-1) := .inl ⟨rfl, fun j _ h => absurd h (Nat.not_lt_zero _)⟩
theorem BestTo.skip {k : Nat} {b : Int} (h : BestTo k1 k2 due q k b) (hk : k < q.length) (hd : due q[k].1 = false) : BestTo k1 k2 due q (k + 1) b := by
  rcases h with ⟨e, h⟩ | ⟨i, hi, e, hik, hdi, h⟩
  · refine .inl ⟨e, fun j hj hjk => ?_⟩
    by_cases c : j = k
    · subst c; exact hd
    · exact h j hj (by omega)
  · refine .inr ⟨i, hi, e, by omega, hdi, fun j hj hjk hdj => ?_⟩
    by_cases c : j = k
    · subst c; rw [hd] at hdj; cases hdj
    · exact h j hj (by omega) hdj
theorem BestTo.keep {k i : Nat} (h : BestTo k1 k2 due q k (i : Int)) (hi : i < q.length) (hk : k < q.length) (hl : ltK k1 k2 q[k] q[i] = false) : BestTo k1 k2 due q (k + 1) (i : Int) := by
  rcases h with ⟨e, h⟩ | ⟨i', hi', e, hik, hdi, h⟩
  · omega
  · obtain rfl : i = i' := by omega
    refine .inr ⟨i, hi, rfl, by omega, hdi, fun j hj hjk hdj => ?_⟩
    by_cases c : j = k
    · subst c; exact ⟨fun h2 => by omega, fun _ => hl⟩
    · exact h j hj (by omega) hdj
theorem BestTo.first {k : Nat} (h : BestTo k1 k2 due q k (-1)) (hk : k < q.length) (hd : due q[k].1 = true) : BestTo k1 k2 due q (k + 1) (k : Int) := by
  rcases h with ⟨e, h⟩ | ⟨i', hi', e, hik, hdi, h⟩
  · refine .inr ⟨k, hk, rfl, by omega, hd, fun j hj hjk hdj => ?_⟩
    by_cases c : j = k
    · subst c; exact ⟨fun h2 => by omega, fun h2 => by omega⟩
    · rw [h j hj (by omega)] at hdj; cases hdj
  · omega
theorem BestTo.less {k i : Nat} (h : BestTo k1 k2 due q k (i : Int)) (hi : i < q.length) (hk : k < q.length) (hd : due q[k].1 = true) (hl : ltK k1 k2 q[k] q[i] = true) : BestTo k1 k2 due q (k + 1) (k : Int) := by
  rcases h with ⟨e, h⟩ | ⟨i', hi', e, hik, hdi, h⟩
  · omega
  · obtain rfl : i = i' := by omega
    refine .inr ⟨k, hk, rfl, by omega, hd, fun j hj hjk hdj => ⟨fun h2 => ?_, fun h2 => by omega⟩⟩
    by_cases c : j = i
    · subst c; exact hl
    · obtain ⟨g1, g2⟩ := h j hj h2 hdj
      rcases Nat.lt_or_ge j i with c2 | c2
      · have g1 := g1 c2
        simp only [ltK, decide_eq_true_eq] at *
        omega
      · have g2 := g2 (by omega)
        simp only [ltK, decide_eq_true_eq, decide_eq_false_iff_not] at *
        omega
end Go.Proofs.Ytlcpackmoolngaa.Ss
namespace Go.Proofs.Ytlcpackmoolngaa.Ss
open Go.ChangeShapes Go.WideShapes Go.ChangeAt Go.Shelf Go.RowKit Go.Lib Go.Sort Go.Proofs.Ytlcpackmoolngaa.Stb Go.Proofs.Ytlcpackmoolngaa.Bu Go.Proofs.Ytlcpackmoolngaa.Mem Go.Proofs.Ytlcpackmoolngaa.Op Go.Proofs.Ytlcpackmoolngaa.Sm
set_option linter.unusedVariables false
theorem ownp_addr {w : World} {base : Nat} {A : Option Addr} {c : Nat} {qs : List Parc} (h : OwnParcs w base A c qs) (hn : 0 < qs.length) : ∃ g, A = some ⟨g, 0, none⟩ ∧ base ≤ g ∧ g < w.heap.size ∧ qs.length ≤ c ∧ c ≤ maxLen := by
  obtain ⟨xs, ho, hx⟩ := h
  have hlt := ho.lt
  rcases ho.2 with ⟨_, h0⟩ | ⟨g, cap, cur, hv, hb, hg, hnc, hcm, _⟩
  · omega
  · injection hv with h1 h2 h3
    subst h1 h3
    exact ⟨g, rfl, hb, (hlt g rfl).2, hnc, hcm⟩
theorem ownp_lo {w : World} {base : Nat} {A : Option Addr} {c : Nat} {ps : List Parc} (h : OwnParcs w base A c ps) : ParcsLo w base w.heap.size A ps := by
  obtain ⟨xs, ho, hx⟩ := h
  refine ⟨xs, Rd.of_own ho, own_lo ho, fun i p hp => ?_⟩
  obtain ⟨a, c', h1, h2, h4⟩ := hx i p hp
  exact ⟨a, c', h1, fun ad e => own_lo h2 ad e, (Mem.own_cap h2).1, (Mem.own_cap h2).2, h4, Rd.of_own h2⟩
theorem ownp_kept {w w' : World} {base : Nat} {A : Option Addr} {c : Nat} {ps : List Parc} {row : Option Nat} (h : OwnParcs w base A c ps) (hg : w.grownBy w' row) (hne : (Value.slice A ps.length c).ownBlock = none ∨ (Value.slice A ps.length c).ownBlock ≠ row)
    (ht : ∀ g, row = some g → ∃ cur t, w.heap[g]? = some (.cells cur t (0, 0)) ∧ t ≠ 5) : OwnParcs w' base A c ps := by
  obtain ⟨xs, ho, hx⟩ := h
  refine ⟨xs, ho.kept hg hne, fun i p hp => ?_⟩
  obtain ⟨a, c', h1, h2, h4⟩ := hx i p hp
  exact ⟨a, c', h1, Ms.own_kept h2 hg ht, h4⟩
theorem not_row {w : World} {base size n g : Nat} {e T : TypeId} {v : Value} {xs : List Value} {C : Array Value} (ho : w.ownsRow base e size v n xs) (hb : Blk w g T C) (hne : T ≠ e) : some g ≠ v.ownBlock := fun h => by
  obtain ⟨hl, ⟨rfl, _⟩ | ⟨b, cap, cur, rfl, _, hh, _⟩⟩ := ho
  · cases h
  · injection h with h
    subst h
    have hb : w.heap[g]? = _ := hb
    rw [hb] at hh
    injection hh with hh
    injection hh with _ h4 _
    exact hne h4
theorem ownp_erase {w : World} {base g c : Nat} {qs : List Parc} (h : OwnParcs w base (some ⟨g, 0, none⟩) c qs) {k : Nat} (hk : k < qs.length) : ∃ xs, w.ownsRow base 52 5 (.slice (some ⟨g, 0, none⟩) qs.length c) qs.length xs ∧ (∀ u ∈ xs, u.oneCell' = true) ∧
    ∀ w', Deleted w w' g k qs.length xs → (∀ B W, B ≤ base → Below B W w → Below B W w') ∧ OwnParcs w' base (some ⟨g, 0, none⟩) c (qs.eraseIdx k) := by
  obtain ⟨xs, ho, hx⟩ := h
  have hne : 52 ≠ 5 := by decide
  refine ⟨xs, ho, rows_one (F := fun _ _ _ => True) ho.1 (fun i p hp => let ⟨a, c', h1, _⟩ := hx i p hp; ⟨a, c', h1, trivial⟩), fun w' hd => ⟨fun B W hB hb => ?_, ?_⟩⟩
  · exact hb.grown hd.2.1 (by have := (ho.lt g rfl).2; have := (ho.lt g rfl).1; omega) (fun x e => by
      have e : some g = some x := e
      injection e with e
      have := (ho.lt g rfl).1
      omega)
  · have hlen : (qs.eraseIdx k).length = qs.length - 1 := by rw [List.length_eraseIdx]; simp [hk]
    obtain ⟨ys, hy⟩ := hd.2.2 _ _ _ _ ho
    have hy1 := own_shrink hy (show qs.length - 1 ≤ qs.length by omega)
    have hxe : ys.take ((qs.length - 1) * 5) = xs.take (k * 5) ++ xs.drop ((k + 1) * 5) := by
      have hl2 := erase_len xs qs.length k ho.1 hk
      refine List.ext_getElem? fun j => ?_
      by_cases hj : j < (qs.length - 1) * 5
      · have h1 := hd.1 j _ (List.getElem?_eq_getElem (show j < (xs.take (k * 5) ++ xs.drop ((k + 1) * 5)).length by omega))
        rw [List.getElem?_eq_getElem (show j < (xs.take (k * 5) ++ xs.drop ((k + 1) * 5)).length by omega), ← h1, hy1.cellAt j hj]
      · rw [List.getElem?_eq_none (by rw [hy1.1]; omega), List.getElem?_eq_none (by omega)]
    rw [hxe] at hy1
    refine ⟨xs.take (k * 5) ++ xs.drop ((k + 1) * 5), by rw [hlen]; exact hy1, ?_⟩
    refine erase_parcs (F := fun a c p => w'.ownsRow base 5 1 (.slice a p.bs.length c) p.bs.length (bytesV p.bs) ∧ p.bs.length ≤ 140737488351232) ho.1 hk fun i p hp => ?_
    obtain ⟨a, c', h1, h2, h4⟩ := hx i p hp
    exact ⟨a, c', h1, Ms.own_kept h2 hd.2.1 (Ms.own_is ho hne), h4⟩
def lenOf : Value → Nat | .slice _ n _ => n | _ => 0
theorem filter_len (due : Parc → Bool) : ∀ q : List (Parc × Nat), q.length = (q.filter fun x => due x.1).length + (q.filter fun x => !due x.1).length
  | [] => rfl
  | x :: q => by
    have := filter_len due q
    cases h : due x.1 <;> simp [h] <;> omega
theorem sel_len {k1 k2 : Parc → Int} {due : Parc → Bool} {l0 come q : List (Parc × Nat)} (h : Sel k1 k2 due l0 come q) : come.length + q.length = l0.length := by
  obtain ⟨_, _, _, h4, h5⟩ := h
  have h4 := h4.length_eq
  have h5 := congrArg List.length h5
  have e1 := filter_len due q
  have e2 := filter_len due l0
  rw [List.length_append] at h4
  omega
theorem ownp_busrow {w : World} {base : Nat} {A : Option Addr} {c : Nat} {ps : List Parc} (h : OwnParcs w base A c ps) {g : Nat} {C : Array Value} (hb : Blk w g 24 C) (R : Array Value) : OwnParcs (w.setRow g R) base A c ps := by
  have hh : w.heap[g]? = some (.cells C 24 (0, 0)) := hb
  obtain ⟨xs, ho, hx⟩ := h
  have hg := gr_setRow5 w g R
  have hr : ∀ (T : TypeId), 24 ≠ T → ∀ x, some g = some x → ∃ cur t, w.heap[x]? = some (.cells cur t (0, 0)) ∧ t ≠ T := fun T hT x e => by
    injection e with e
    subst e
    exact ⟨_, _, hh, hT⟩
  refine ⟨xs, Ms.own_kept ho hg (hr _ (by decide)), fun i p hp => ?_⟩
  obtain ⟨a, c', h1, h2, h4⟩ := hx i p hp
  exact ⟨a, c', h1, Ms.own_kept h2 hg (hr _ (by decide)), h4⟩
theorem ownp_at {w : World} {base : Nat} {A : Option Addr} {c : Nat} {ps : List Parc} (h : OwnParcs w base A c ps) {i : Nat} {p : Parc} (hp : ps[i]? = some p) : ∃ g a ca, A = some ⟨g, 0, none⟩ ∧ base ≤ g ∧ g < w.heap.size ∧ ps.length ≤ c ∧ c ≤ maxLen ∧
    w.cell? ⟨g, i * 5, none⟩ = some (.int .i64 p.f) ∧ w.cell? ⟨g, i * 5 + 1, none⟩ = some (.int .i64 p.t) ∧ w.cell? ⟨g, i * 5 + 2, none⟩ = some (.int .i64 p.d) ∧ w.cell? ⟨g, i * 5 + 3, none⟩ = some (.int .i64 p.s) ∧ w.cell? ⟨g, i * 5 + 4, none⟩ = some (.slice a p.bs.length ca) ∧
    w.ownsRow base 5 1 (.slice a p.bs.length ca) p.bs.length (bytesV p.bs) ∧ p.bs.length ≤ 140737488351232 := by
  have hi : i < ps.length := (List.getElem?_eq_some_iff.1 hp).1
  obtain ⟨g, rfl, k1, k2, k3, k4⟩ := ownp_addr h (by omega)
  obtain ⟨xs, ho, hx⟩ := h
  obtain ⟨a, ca, h1, h2, h3⟩ := hx i p hp
  have hg : ∀ j v, j < 5 → (parcL p a ca)[j]? = some v → w.cell? ⟨g, i * 5 + j, none⟩ = some v := fun j v hj hv => by
    rw [← h1, List.getElem?_take, if_pos hj, List.getElem?_drop] at hv
    rw [ho.cellAt _ (by omega)]
    exact hv
  exact ⟨g, a, ca, rfl, k1, k2, k3, k4, hg 0 _ (by omega) rfl, hg 1 _ (by omega) rfl, hg 2 _ (by omega) rfl, hg 3 _ (by omega) rfl, hg 4 _ (by omega) rfl, h2, h3⟩
end Go.Proofs.Ytlcpackmoolngaa.Ss
namespace Go.Proofs.Ytlcpackmoolngaa.Ss
open Go.ChangeShapes Go.WideShapes Go.ChangeAt Go.Shelf Go.RowKit Go.Lib Go.Sort Go.Proofs.Ytlcpackmoolngaa.Stb Go.Proofs.Ytlcpackmoolngaa.Bu Go.Proofs.Ytlcpackmoolngaa.Mem Go.Proofs.Ytlcpackmoolngaa.Op Go.Proofs.Ytlcpackmoolngaa.Sm Go.Proofs.Ytlcpackmoolngaa.Nd Go.Proofs.Ytlcpackmoolngaa.Rws
set_option linter.unusedVariables false
set_option linter.unusedSimpArgs false
set_option maxRecDepth 100000 in
set_option maxHeartbeats 4000000 in
theorem refstepB_any (now ser t : Int) (A : Option Addr) (c : Nat) (qs : List Parc) (B : Nat) (w : World) (hB : B ≤ w.heap.size) (hl : qs.length * 56 ≤ 140737488351232) (hq : ParcsAt w B A qs) (ht : now ≤ t) (ht2 : t ≤ 1099511627776) :
    Calls Try.prog 16 #[.agg #[.int .i64 now, .int .i64 ser, .slice A qs.length c], .int .i64 t] w fun e w' => ∃ A1 c1 A2 c2 rs, e = .returned (.tuple #[.agg #[.int .i64 t, .int .i64 ser, .slice A1 (qs.filter fun p => !decide (p.d ≤ t)).length c1], .slice A2 rs.length c2, .int .i64 0]) ∧ SortedOf (qs.filter fun p => decide (p.d ≤ t)) rs ∧ ParcsAt w' w'.heap.size A2 rs ∧ ParcsAt w' w'.heap.size A1 (qs.filter fun p => !decide (p.d ≤ t)) ∧ Below w.heap.size w w' := by
  have D1 := Lib.hid (show Blk ((w.alloc (.cells #[.int .i64 now, .int .i64 ser, .slice A qs.length c] 24)).alloc (.cells #[.int .i64 0, .int .i64 0, .slice none 0 0] 24)) w.heap.size 24 #[.int .i64 now, .int .i64 ser, .slice A qs.length c] from (show Blk (w.alloc (.cells #[.int .i64 now, .int .i64 ser, .slice A qs.length c] 24)) w.heap.size 24 #[.int .i64 now, .int .i64 ser, .slice A qs.length c] from Blk.fresh _ _ _).alloc (.cells #[.int .i64 0, .int .i64 0, .slice none 0 0] 24))
  have D2 := Lib.hid (show Blk ((w.alloc (.cells #[.int .i64 now, .int .i64 ser, .slice A qs.length c] 24)).alloc (.cells #[.int .i64 0, .int .i64 0, .slice none 0 0] 24)) (w.heap.size + 1) 24 #[.int .i64 0, .int .i64 0, .slice none 0 0] from fresh2 _ _ _ _)
  have HB := Lib.hid (((Below.refl w.heap.size w).alloc (Nat.le_refl _) (.cells #[.int .i64 now, .int .i64 ser, .slice A qs.length c] 24)).alloc (by simp) (.cells #[.int .i64 0, .int .i64 0, .slice none 0 0] 24))
  go_enter Try.func16, Try.ntmps16
  go_upto_region 1 with fail
  generalize ((w.alloc (.cells #[.int .i64 now, .int .i64 ser, .slice A qs.length c] 24)).alloc (.cells #[.int .i64 0, .int .i64 0, .slice none 0 0] 24)) = W at *
  have y0 := D1.out.cell 0
  simp only [List.getElem?_toArray, List.getElem?_cons_zero, List.getElem?_cons_succ] at y0
  have HQ := Lib.hid (hq.below (HB.out.mono hB))
  have h1 : ¬ t < now := by omega
  have h2 : ¬ (1099511627776 : Int) < t := by omega
  clear hq
  go_wp2_with (refine wpList_whole rfl 24 _ rfl w.heap.size rfl D1.out _ Try.underlying24 rfl (by kernel_rfl) ?_)
  refine (copybusD_any now ser A c qs B W (Nat.le_trans hB HB.out.size) hl HQ.out).mono ?_
  rintro e w1 ⟨A2, c2, rfl, hod, hb⟩
  have hW : w.heap.size + 1 < W.heap.size := D2.out.lt
  have HOD := Lib.hid hod.own
  have D2 := Lib.hid (D2.out.below hb D2.out.lt)
  have HB := Lib.hid (onward HB.out (Nat.le_refl _) hb)
  have hw1 := D2.out.lt
  have hW1 := hb.size
  clear hb hod HQ D1 y0
  have hb : Below w1.heap.size w1 (w1.alloc (.cells #[.int .i64 0, .int .i64 0, .slice none 0 0] 24)) := (Below.refl _ _).alloc (Nat.le_refl _) _
  have D6 := Lib.hid (show Blk (w1.alloc (.cells #[.int .i64 0, .int .i64 0, .slice none 0 0] 24)) w1.heap.size 24 #[.int .i64 0, .int .i64 0, .slice none 0 0] from Blk.fresh _ _ _)
  have D2 := Lib.hid (D2.out.below hb D2.out.lt)
  have HOD := Lib.hid (HOD.out.below hb)
  have HB := Lib.hid (onward HB.out (Nat.le_refl _) hb)
  clear hb
  go_upto_region 4 with (refine wpList_store_row rfl 24 _ _ rfl w1.heap.size #[.int .i64 now, .int .i64 ser, .slice A2 qs.length c2] rfl rfl 24 _ D6.out (by kernel_rfl) rfl (by simp [Value.oneCell']) ?_)
  have HOD := Lib.hid (ownp_busrow HOD.out D6.out #[.int .i64 now, .int .i64 ser, .slice A2 qs.length c2])
  have D2 := Lib.hid (D2.out.setRow_other (g' := w1.heap.size) (by omega) #[.int .i64 now, .int .i64 ser, .slice A2 qs.length c2])
  have D6 := Lib.hid (D6.out.setRow #[.int .i64 now, .int .i64 ser, .slice A2 qs.length c2])
  have HB := Lib.hid (below_setRow HB.out (show w.heap.size ≤ w1.heap.size by omega) #[.int .i64 now, .int .i64 ser, .slice A2 qs.length c2])
  generalize ((w1.alloc (.cells #[.int .i64 0, .int .i64 0, .slice none 0 0] 24)).setRow w1.heap.size #[.int .i64 now, .int .i64 ser, .slice A2 qs.length c2]) = w2 at *
  obtain ⟨g6, hg6⟩ : ∃ g, w1.heap.size = g := ⟨_, rfl⟩
  rw [hg6] at D6 hw1 hW1 ⊢
  clear hg6
  have y0 := D6.out.cell 0
  have f0 := D6.out.thaw 0
  simp only [List.getElem?_toArray, List.getElem?_cons_zero, List.getElem?_cons_succ] at y0
  go_wp2_with fail
  have HOD := Lib.hid (own_parcs_set HOD.out D6.out 0 (.int .i64 t))
  have D2 := Lib.hid (D2.out.other (p := ⟨g6, 0, none⟩) (by show w.heap.size + 1 ≠ g6; omega) (.int .i64 t))
  have D6 : Hid (Blk (w2.setCell ⟨g6, 0, none⟩ (.int .i64 t)) g6 24 #[.int .i64 t, .int .i64 ser, .slice A2 qs.length c2]) := Lib.hid (D6.out.set 0 _)
  have HB := Lib.hid (HB.out.setCell (p := ⟨g6, 0, none⟩) (by show w.heap.size ≤ g6; omega) (.int .i64 t))
  generalize (w2.setCell ⟨g6, 0, none⟩ (.int .i64 t)) = w3 at *
  clear y0 f0
  go_loopw [8] (fun v wr => ∃ (A1 : Option Addr) (c1 : Nat) (come q : List (Parc × Nat)), v = .slice A1 come.length c1 ∧ Sel (fun p : Parc => p.d) (fun p => p.s) (fun p => decide (p.d ≤ t)) qs.zipIdx come q ∧ Blk wr g6 24 #[.int .i64 t, .int .i64 ser, .slice A2 q.length c2] ∧ Blk wr (w.heap.size + 1) 24 #[.int .i64 0, .int .i64 0, .slice none 0 0] ∧
    OwnParcs wr W.heap.size A1 c1 (come.map Prod.fst) ∧ OwnParcs wr W.heap.size A2 c2 (q.map Prod.fst) ∧ (v.ownBlock = none ∨ v.ownBlock ≠ (Value.slice A2 q.length c2).ownBlock) ∧ Below w.heap.size w wr) (fun v _ => qs.length - lenOf v)
  case atStart =>
    refine ⟨none, 0, [], qs.zipIdx, rfl, Sel.zero (zip_rise qs), ?_, D2.out, ⟨[], World.ownsRow_nil _ _ _ _, fun i p h => by simp at h⟩, ?_, .inl rfl, HB.out⟩
    · rw [List.length_zipIdx]; exact D6.out
    · rw [show qs.zipIdx.map Prod.fst = qs by simp]; exact HOD.out
  case round =>
    clear D6 D2 HOD HB
    obtain ⟨A1, c1, come, q, rfl, hsel, b6, b2, ho1, ho2, hne, hb⟩ := hrel
    have HS := Lib.hid hsel
    have D6 := Lib.hid b6
    have D2 := Lib.hid b2
    have HO1 := Lib.hid ho1
    have HO2 := Lib.hid ho2
    have HNE := Lib.hid hne
    have HB := Lib.hid hb
    have hlen : come.length + q.length = qs.length := by rw [sel_len hsel, List.length_zipIdx]
    have HQL := Lib.hid (show (q.map Prod.fst).length = q.length from List.length_map _)
    have HCL := Lib.hid (show (come.map Prod.fst).length = come.length from List.length_map _)
    have y2 := D6.out.cell 2
    simp only [List.getElem?_toArray, List.getElem?_cons_zero, List.getElem?_cons_succ] at y2
    clear hsel b6 b2 ho1 ho2 hne hb
    go_wp2_with fail
    generalize wr = wq at *
    clear y2
    go_loopw [9, 28] (fun b i wr => ∃ (k : Nat) (z : Int), k ≤ q.length ∧ i = .int .i64 k ∧ b = .int .i64 z ∧ BestTo (fun p : Parc => p.d) (fun p => p.s) (fun p => decide (p.d ≤ t)) q k z ∧ Below wq.heap.size wq wr) (fun _ i _ => q.length - (intOf i).toNat)
    case atStart => exact ⟨0, -1, by omega, rfl, rfl, BestTo.zero, Below.refl _ _⟩
    case round =>
      obtain ⟨k, z, hk, rfl, rfl, hbest, hbw⟩ := hrel
      have HBW := Lib.hid hbw
      have HBE := Lib.hid hbest
      have D6w := Lib.hid (D6.out.below hbw D6.out.lt)
      have D2w := Lib.hid (D2.out.below hbw D2.out.lt)
      have HO2w := Lib.hid (HO2.out.below hbw)
      clear hbw hbest
      by_cases hlt : k < q.length
      · have hm : (q.map Prod.fst)[k]? = some q[k].1 := by simp [hlt]
        obtain ⟨p, hp⟩ : ∃ p, q[k].1 = p := ⟨_, rfl⟩
        rw [hp] at hm
        have HP := Lib.hid hp
        obtain ⟨b, o, a, ca, e, hbB, x0, x1, x2, x3, x4, h2', h3, h4, h5⟩ := HO2w.out.at.1.at hm
        obtain ⟨gq, e2, hq1, hq2, hnc, hcm⟩ := ownp_addr HO2w.out (by rw [HQL.out]; omega)
        subst e2
        obtain ⟨rfl, rfl⟩ : gq = b ∧ 0 = o := by injection e with e; injection e with e1 e2; exact ⟨e1, e2⟩
        simp only [Nat.zero_add] at x0 x1 x2 x3 x4
        have hk0 : (0 : Int) ≤ (k : Int) := by omega
        have hk1 : (k : Int) < (q.length : Int) := by omega
        clear e h5 hm hp
        go_upto_region 10 with fail
        have PB := Lib.hid (show Blk (wr.alloc (.cells #[.int .i64 p.f, .int .i64 p.t, .int .i64 p.d, .int .i64 p.s, .slice a p.bs.length ca] 52)) wr.heap.size 52 #[.int .i64 p.f, .int .i64 p.t, .int .i64 p.d, .int .i64 p.s, .slice a p.bs.length ca] from Blk.fresh _ _ _)
        have hb3 : Below wr.heap.size wr (wr.alloc (.cells #[.int .i64 p.f, .int .i64 p.t, .int .i64 p.d, .int .i64 p.s, .slice a p.bs.length ca] 52)) := (Below.refl _ _).alloc (Nat.le_refl _) _
        have D6w := Lib.hid (D6w.out.below hb3 D6w.out.lt)
        have HO2w := Lib.hid (HO2w.out.below hb3)
        have HBF := Lib.hid (onward HBW.out (Nat.le_refl _) hb3)
        clear hb3 x0 x1 x2 x3 x4 hbB hq2 HBW D2w
        generalize (wr.alloc (.cells #[.int .i64 p.f, .int .i64 p.t, .int .i64 p.d, .int .i64 p.s, .slice a p.bs.length ca] 52)) = w4 at *
        obtain ⟨gp, hgp⟩ : ∃ g, wr.heap.size = g := ⟨_, rfl⟩
        rw [hgp] at PB ⊢
        clear hgp
        have p2 := PB.out.cell 2
        have p3 := PB.out.cell 3
        have y2 := D6w.out.cell 2
        simp only [List.getElem?_toArray, List.getElem?_cons_zero, List.getElem?_cons_succ] at p2 p3 y2
        by_cases hd : p.d ≤ t
        · have hdn : ¬ t < p.d := by omega
          have HD := Lib.hid (show (fun p : Parc => decide (p.d ≤ t)) q[k].1 = true from by rw [HP.out]; simp [hd])
          by_cases hz : z = -1
          · subst hz
            have HN := Lib.hid (BestTo.first HBE.out hlt HD.out)
            go_upto_region 11 with fail
            go_quiet (fail)
            have HBF := Lib.hid (below_drewN HBF.out nq)
            generalize (w4.drewN nq) = w5 at *
            go_wp2_with fail
            exact ⟨⟨k + 1, (k : Int), by omega, by go_num, rfl, HN.out, HBF.out⟩, by simp [intOf]; omega⟩
          · obtain ⟨i, hi, hzi, hik, hdi, hball⟩ : ∃ i : Nat, ∃ hi : i < q.length, z = (i : Int) ∧ i < k ∧ decide (q[i].1.d ≤ t) = true ∧ True := by
              rcases HBE.out with ⟨e, _⟩ | ⟨i, hi, e, hik, hdi, _⟩
              · exact absurd e hz
              · exact ⟨i, hi, e, hik, hdi, trivial⟩
            subst hzi
            have hmi : (q.map Prod.fst)[i]? = some q[i].1 := by simp [hi]
            obtain ⟨r, hr⟩ : ∃ r, q[i].1 = r := ⟨_, rfl⟩
            rw [hr] at hmi
            have HR := Lib.hid hr
            obtain ⟨b, o, a', ca', e, hbB, x0, x1, x2, x3, x4, _, _, _, h5⟩ := HO2w.out.at.1.at hmi
            obtain ⟨rfl, rfl⟩ : gq = b ∧ 0 = o := by injection e with e; injection e with e1 e2; exact ⟨e1, e2⟩
            simp only [Nat.zero_add] at x0 x1 x2 x3 x4
            have hi0 : (0 : Int) ≤ (i : Int) := by omega
            have hi1 : (i : Int) < (q.length : Int) := by omega
            have hin : ¬ ((i : Int) < 0) := by omega
            clear e h5 hmi hr hbB x0 x1 x4
            by_cases hA : p.d < r.d
            · have HN := Lib.hid (BestTo.less HBE.out hi hlt HD.out (by simp only [ltK, HP.out, HR.out, decide_eq_true_eq]; omega))
              go_upto_region 11 with fail
              go_quiet (fail)
              have HBF := Lib.hid (below_drewN HBF.out nq)
              generalize (w4.drewN nq) = w5 at *
              go_wp2_with fail
              exact ⟨⟨k + 1, (k : Int), by omega, by go_num, rfl, HN.out, HBF.out⟩, by simp [intOf]; omega⟩
            · by_cases hE : p.d = r.d
              · have hE1 : decide (p.d = r.d) = true := by simp [hE]
                have hE2 : (p.d == r.d) = true := by simp [hE]
                by_cases hS : p.s < r.s
                · have HN := Lib.hid (BestTo.less HBE.out hi hlt HD.out (by simp only [ltK, HP.out, HR.out, decide_eq_true_eq]; omega))
                  go_upto_region 11 with fail
                  go_quiet (fail)
                  have HBF := Lib.hid (below_drewN HBF.out nq)
                  generalize (w4.drewN nq) = w5 at *
                  go_wp2_with fail
                  exact ⟨⟨k + 1, (k : Int), by omega, by go_num, rfl, HN.out, HBF.out⟩, by simp [intOf]; omega⟩
                · have HN := Lib.hid (BestTo.keep HBE.out hi hlt (by simp only [ltK, HP.out, HR.out, decide_eq_false_iff_not]; omega))
                  go_upto_region 11 with fail
                  go_quiet (fail)
                  have HBF := Lib.hid (below_drewN HBF.out nq)
                  generalize (w4.drewN nq) = w5 at *
                  go_wp2_with fail
                  exact ⟨⟨k + 1, (i : Int), by omega, by go_num, rfl, HN.out, HBF.out⟩, by simp [intOf]; omega⟩
              · have HN := Lib.hid (BestTo.keep HBE.out hi hlt (by simp only [ltK, HP.out, HR.out, decide_eq_false_iff_not]; omega))
                have hE1 : decide (p.d = r.d) = false := by simp [hE]
                have hE2 : (p.d == r.d) = false := by simp [hE]
                go_upto_region 11 with fail
                go_quiet (fail)
                have HBF := Lib.hid (below_drewN HBF.out nq)
                generalize (w4.drewN nq) = w5 at *
                go_wp2_with fail
                exact ⟨⟨k + 1, (i : Int), by omega, by go_num, rfl, HN.out, HBF.out⟩, by simp [intOf]; omega⟩
        · have hdn : t < p.d := by omega
          have HN := Lib.hid (BestTo.skip HBE.out hlt (by rw [HP.out]; simp [hd]))
          go_wp2_with fail
          exact ⟨⟨k + 1, z, by omega, by go_num, rfl, HN.out, HBF.out⟩, by simp [intOf]; omega⟩
      · obtain rfl : k = q.length := by omega
        clear hlt
        have HO1w := Lib.hid (HO1.out.below HBW.out)
        have HBx := Lib.hid (onward HB.out (Nat.le_refl _) HBW.out)
        by_cases hz : z = -1
        · subst hz
          have hnd : ∀ x ∈ q, decide (x.1.d ≤ t) = false := by
            rcases HBE.out with ⟨_, h⟩ | ⟨i, _, e, _⟩
            · intro x hx
              obtain ⟨j, hj, rfl⟩ := List.getElem_of_mem hx
              exact h j hj hj
            · omega
          obtain ⟨hs1, hs2⟩ := sel_fin HS.out hnd
          have HS1 := Lib.hid hs1
          have HS2 := Lib.hid hs2
          clear hnd hs1 hs2
          go_wp2_with (first
            | (refine wpList_whole rfl 24 _ rfl g6 rfl D6w.out _ Try.underlying24 rfl (by kernel_rfl) ?_)
            | (refine wpList_store_row rfl 24 _ _ rfl (w.heap.size + 1) #[.int .i64 t, .int .i64 ser, .slice A2 q.length c2] rfl rfl 24 _ D2w.out (by kernel_rfl) rfl (by simp [Value.oneCell']) ?_))
          refine ret_row3 (x := .slice A1 come.length c1) (y := .int .i64 0) rfl rfl rfl rfl (D2w.out.setRow #[.int .i64 t, .int .i64 ser, .slice A2 q.length c2]) ⟨by rw [Try.underlying24], by kernel_rfl⟩ rfl ?_
          refine ⟨A2, c2, A1, c1, come.map Prod.fst, by rw [HCL.out, ← HS2.out, HQL.out], HS1.out, ?_, ?_, below_setRow HBx.out (by omega) _⟩
          · exact (((ownp_lo HO1w.out).setRow (by omega) _).keep (below_setRow (Below.refl 0 wr) (Nat.zero_le _) _).size fun _ _ _ _ => rfl).at
          · rw [← HS2.out]
            exact (((ownp_lo HO2w.out).setRow (by omega) _).keep (below_setRow (Below.refl 0 wr) (Nat.zero_le _) _).size fun _ _ _ _ => rfl).at
        · obtain ⟨i, hi, hzi, hdi, hball⟩ : ∃ i : Nat, ∃ hi : i < q.length, z = (i : Int) ∧ decide (q[i].1.d ≤ t) = true ∧ ∀ j (h : j < q.length), decide (q[j].1.d ≤ t) = true → (j < i → ltK (fun p : Parc => p.d) (fun p => p.s) q[i] q[j] = true) ∧ (i < j → ltK (fun p : Parc => p.d) (fun p => p.s) q[j] q[i] = false) := by
            rcases HBE.out with ⟨e, _⟩ | ⟨i, hi, e, hik, hdi, h⟩
            · exact absurd e hz
            · exact ⟨i, hi, e, hdi, fun j hj hd => h j hj hj hd⟩
          subst hzi
          have HSEL := Lib.hid (Sel.step HS.out hi hdi hball)
          have hmi : (q.map Prod.fst)[i]? = some q[i].1 := by simp [hi]
          have HMC := Lib.hid (show (come ++ [q[i]]).map Prod.fst = come.map Prod.fst ++ [q[i].1] by simp)
          have HME := Lib.hid (show (q.eraseIdx i).map Prod.fst = (q.map Prod.fst).eraseIdx i from by rw [List.eraseIdx_eq_take_drop_succ, List.eraseIdx_eq_take_drop_succ, List.map_append, List.map_take, List.map_drop])
          obtain ⟨r, hr⟩ : ∃ r, q[i].1 = r := ⟨_, rfl⟩
          rw [hr] at hmi HMC
          obtain ⟨gq, a, ca, e2, hq1, hq2, hnc, hcm, x0, x1, x2, x3, x4, h5, h6⟩ := ownp_at HO2w.out hmi
          subst e2
          have H5 := Lib.hid h5
          have H6 := Lib.hid h6
          have hi0 : (0 : Int) ≤ (i : Int) := by omega
          have hi1 : (i : Int) < (q.length : Int) := by omega
          have hin : ¬ ((i : Int) < 0) := by omega
          have y2 := D6w.out.cell 2
          simp only [List.getElem?_toArray, List.getElem?_cons_zero, List.getElem?_cons_succ] at y2
          have hb3 : Below wr.heap.size wr (wr.alloc (.cells #[.int .i64 r.f, .int .i64 r.t, .int .i64 r.d, .int .i64 r.s, .slice a r.bs.length ca] 52)) := (Below.refl _ _).alloc (Nat.le_refl _) _
          have HN : Hid (Rd (wr.alloc (.cells #[.int .i64 r.f, .int .i64 r.t, .int .i64 r.d, .int .i64 r.s, .slice a r.bs.length ca] 52)) (wr.heap.size + 1) 5 (some ⟨wr.heap.size, 0, none⟩) 1 (parcL r a ca)) := Lib.hid (rd_five wr (parcL r a ca) rfl _)
          have HO1v := Lib.hid (HO1w.out.below hb3)
          have HO2v := Lib.hid (HO2w.out.below hb3)
          have D6v := Lib.hid (D6w.out.below hb3 D6w.out.lt)
          have D2v := Lib.hid (D2w.out.below hb3 D2w.out.lt)
          have HBv := Lib.hid (onward HBx.out (Nat.le_refl _) hb3)
          have H5 := Lib.hid (Nd.ownsRow_below H5.out hb3)
          have HBS : Hid (W.heap.size ≤ (wr.alloc (.cells #[.int .i64 r.f, .int .i64 r.t, .int .i64 r.d, .int .i64 r.s, .slice a r.bs.length ca] 52)).heap.size) := Lib.hid (by have := hb3.size; have := D6w.out.lt; omega)
          obtain ⟨xs1, hw1', hx1⟩ := HO1v.out
          rw [HCL.out] at hw1'
          have HW := Lib.hid hw1'
          have HX := Lib.hid hx1
          clear hb3 hw1' hx1 h5 h6 hball hdi hmi hr
          go_upto_region 17 with (at_builtin; refine Tx.wpList_append_at _ rfl (.tmp 78) (.tmp 84) 22 rfl (base := W.heap.size) elemParcs rfl HW.out rfl HN.out (by omega) (by simp [parcL, Value.oneCell']) (by unfold maxLen; omega) (by omega) HBS.out ?_; intro v4 w5 hown4 hg4 hat4; obtain ⟨A4, c4, rfl, _⟩ := own_form hown4; have HO4 := Lib.hid hown4; have HG4 := Lib.hid hg4; have HT4 := Lib.hid hat4; clear hown4 hg4 hat4)
          have hrow : ∀ x, (Value.slice A1 come.length c1).ownBlock = some x → ∃ cur t, (wr.alloc (.cells #[.int .i64 r.f, .int .i64 r.t, .int .i64 r.d, .int .i64 r.s, .slice a r.bs.length ca] 52)).heap[x]? = some (.cells cur t (0, 0)) ∧ t ≠ 5 := Ms.own_is HW.out (by decide)
          have G1 := Lib.hid (show OwnParcs w5 W.heap.size A4 c4 ((come ++ [q[i]]).map Prod.fst) from by
            rw [HMC.out]
            exact OwnParcs.snoc HX.out (by rw [HCL.out]; exact HW.out) H5.out H6.out (by rw [HCL.out]; exact HO4.out) (by rw [HCL.out]; exact HG4.out))
          have hnq : (Value.slice (some ⟨gq, 0, none⟩) q.length c2).ownBlock = none ∨ (Value.slice (some ⟨gq, 0, none⟩) q.length c2).ownBlock ≠ (Value.slice A1 come.length c1).ownBlock := apart_symm HNE.out
          have G2 := Lib.hid (ownp_kept HO2v.out HG4.out (by rw [HQL.out]; exact hnq) hrow)
          have E6 := Lib.hid (D6v.out.grown HG4.out (not_row HW.out D6v.out (by decide)))
          have E2 := Lib.hid (D2v.out.grown HG4.out (not_row HW.out D2v.out (by decide)))
          have HBz := Lib.hid (HBv.out.grown HG4.out HBv.out.size (fun g e => by have := (HW.out.lt g e).1; omega))
          have hqa : ¬ (some gq = (Value.slice A4 (come.length + 1) c4).ownBlock) := by
            obtain ⟨ys, hys, _⟩ := HO2v.out
            rw [HQL.out] at hys
            have := Tx.own_after hys hnq HT4.out
            rcases this with e | e
            · cases e
            · exact e
          have HQA := Lib.hid hqa
          clear hrow hnq hqa x0 x1 x2 x3 x4 HO1v HO2v D6v D2v HBv HN HT4 HG4 HO4 HW HX H5 H6 HBS HO1w HO2w D6w D2w HBx HBW HBE HO1 HNE HB y2 hq2
          obtain ⟨j, hj⟩ : ∃ j, j = i + 1 := ⟨_, rfl⟩
          have ew : IntKind.i64.wrap ((i : Int) + 1) = (j : Int) := by rw [IntWalk.i64_in _ (by omega), hj]; rfl
          have HJ := Lib.hid hj
          clear hj
          obtain ⟨xs, hro, hro1, hdel⟩ := ownp_erase G2.out (k := i) (by rw [HQL.out]; exact hi)
          rw [HQL.out] at hro hdel hnc
          have hcm' : c2 ≤ 9223372036854775807 := by unfold maxLen at hcm; omega
          obtain ⟨AS, news, HNW, hAS, HNL, HSRC, HN1, HSP, hkj, hkc, hjc, hjn, hkr⟩ := move_facts hro hi hnc hro1 HJ
          obtain ⟨i0, hi0', hz0, hz1, hz2⟩ := info_parts elemParcs.info
          obtain ⟨W1, hWW⟩ : ∃ W1, W1 = w5.drew.setCells gq (0 + i * 5) news := ⟨_, rfl⟩
          have HWW := Lib.hid hWW
          have hmv : Deleted w5 W1 gq i q.length xs := by
            rw [hWW, ← HNW.out, Nat.zero_add]; exact moved_of hro.1 hi (fun j hj => hro.cellAt j hj) 1
          obtain ⟨hbd, hop⟩ := hdel W1 hmv
          have HOP := Lib.hid hop
          have HB2 := Lib.hid (hbd w.heap.size w (by omega) HBz.out)
          have F6 := Lib.hid (show Blk W1 g6 24 _ from (hmv.2.1.block g6 E6.out.lt (not_row hro E6.out (by decide))).trans E6.out)
          have F2 := Lib.hid (show Blk W1 (w.heap.size + 1) 24 _ from (hmv.2.1.block (w.heap.size + 1) E2.out.lt (not_row hro E2.out (by decide))).trans E2.out)
          have G1 := Lib.hid (ownp_kept G1.out hmv.2.1 (by
            right
            intro e
            rw [List.length_map, List.length_append] at e
            exact HQA.out e.symm) (fun x e => by injection e with e; subst e; exact Ms.own_is hro (by decide) gq rfl))
          have y2 := E6.out.cell 2
          have z2 := F6.out.cell 2
          have f2 := F6.out.thaw 2
          simp only [List.getElem?_toArray, List.getElem?_cons_zero, List.getElem?_cons_succ] at y2 z2
          clear hro hro1 hdel hmv hbd hop hWW G2 E6 E2 HBz
          have HLE := Lib.hid (show (q.eraseIdx i).length = i + (q.length - j) from by rw [List.length_eraseIdx, if_pos hi]; have := HJ.out; omega)
          go_region_law (refine step_append_room rfl (.tmp 89) (.tmp 94) 22 rfl 52 i0 5 Try.underlying22 hi0' hz1 gq 0 i c2 (by simp [Act.eval, Act.put]) AS (q.length - j) (c2 - j) news (by simp [Act.eval, Act.put]) HNL.out (HSRC.out _) HN1.out hkr (HSP.out 1) ?_; rw [← HWW.out])
          all_goals
            have HOP := Lib.hid (own_parcs_set HOP.out F6.out 2 (.slice (some ⟨gq, 0, none⟩) (i + (q.length - j)) c2))
            have G1 := Lib.hid (own_parcs_set G1.out F6.out 2 (.slice (some ⟨gq, 0, none⟩) (i + (q.length - j)) c2))
            have F2 := Lib.hid (F2.out.other (p := ⟨g6, 2, none⟩) (by show w.heap.size + 1 ≠ g6; omega) (.slice (some ⟨gq, 0, none⟩) (i + (q.length - j)) c2))
            have F6 : Hid (Blk (W1.setCell ⟨g6, 2, none⟩ (.slice (some ⟨gq, 0, none⟩) (i + (q.length - j)) c2)) g6 24 #[.int .i64 t, .int .i64 ser, .slice (some ⟨gq, 0, none⟩) (i + (q.length - j)) c2]) := Lib.hid (F6.out.set 2 _)
            have HB2 := Lib.hid (HB2.out.setCell (p := ⟨g6, 2, none⟩) (by show w.heap.size ≤ g6; omega) (.slice (some ⟨gq, 0, none⟩) (i + (q.length - j)) c2))
            clear y2 z2 f2
            generalize (W1.setCell ⟨g6, 2, none⟩ (.slice (some ⟨gq, 0, none⟩) (i + (q.length - j)) c2)) = W5 at *
            go_wp2_with fail
            refine ⟨⟨A4, c4, come ++ [q[i]], q.eraseIdx i, by simp, HSEL.out, by rw [HLE.out]; exact F6.out, F2.out, G1.out, by rw [HME.out]; exact HOP.out, .inr (fun e => HQA.out e.symm), HB2.out⟩, by simp [lenOf]; omega⟩
end Go.Proofs.Ytlcpackmoolngaa.Ss
namespace Go.Proofs.Ytlcpackmoolngaa.Ss
open Go.ChangeShapes Go.WideShapes Go.ChangeAt Go.Shelf Go.RowKit Go.Lib Go.Sort Go.Proofs.Ytlcpackmoolngaa.Stb Go.Proofs.Ytlcpackmoolngaa.Bu Go.Proofs.Ytlcpackmoolngaa.Mem Go.Proofs.Ytlcpackmoolngaa.Op Go.Proofs.Ytlcpackmoolngaa.Sm
set_option linter.unusedVariables false
def Stepd (now ser t : Int) (qs : List Parc) (n s : Int) (ps rs : List Parc) (x : Int) : Prop :=
  (t < now ∨ 1099511627776 < t) ∧ n = 0 ∧ s = 0 ∧ ps = [] ∧ rs = [] ∧ x = 3 ∨
  (now ≤ t ∧ t ≤ 1099511627776) ∧ n = t ∧ s = ser ∧ ps = qs.filter (fun p => !decide (p.d ≤ t)) ∧ SortedOf (qs.filter fun p => decide (p.d ≤ t)) rs ∧ x = 0
theorem Stepd.one {now ser t : Int} {qs : List Parc} {n s : Int} {ps rs : List Parc} {x : Int} {n' s' : Int} {ps' rs' : List Parc} {x' : Int} (h : Stepd now ser t qs n s ps rs x) (h' : Stepd now ser t qs n' s' ps' rs' x') : n = n' ∧ s = s' ∧ ps = ps' ∧ rs = rs' ∧ x = x' := by
  rcases h with ⟨h, rfl, rfl, rfl, rfl, rfl⟩ | ⟨h, rfl, rfl, rfl, h2, rfl⟩ <;> rcases h' with ⟨h', rfl, rfl, rfl, rfl, rfl⟩ | ⟨h', rfl, rfl, rfl, h2', rfl⟩
  · exact ⟨rfl, rfl, rfl, rfl, rfl⟩
  · omega
  · omega
  · exact ⟨rfl, rfl, rfl, h2.one h2', rfl⟩
theorem Stepd.len {now ser t : Int} {qs : List Parc} {n s : Int} {ps rs : List Parc} {x : Int} (h : Stepd now ser t qs n s ps rs x) : ps.length ≤ qs.length ∧ rs.length ≤ qs.length := by
  rcases h with ⟨h, rfl, rfl, rfl, rfl, rfl⟩ | ⟨h, rfl, rfl, rfl, ⟨l, rfl, hp, _⟩, rfl⟩
  · simp
  · refine ⟨List.length_filter_le _ _, ?_⟩
    have := hp.length_eq
    rw [List.length_map, this, List.length_zipIdx]
    exact List.length_filter_le _ _
def StepAs (w w' : World) (now ser t : Int) (qs : List Parc) (e : Ending) : Prop :=
  ∃ n s A1 c1 ps A2 c2 rs x, Stepd now ser t qs n s ps rs x ∧ e = .returned (.tuple #[.agg #[.int .i64 n, .int .i64 s, .slice A1 ps.length c1], .slice A2 rs.length c2, .int .i64 x]) ∧ ParcsAt w' w'.heap.size A1 ps ∧ ParcsAt w' w'.heap.size A2 rs ∧ Below w.heap.size w w'
theorem bstep_any (now ser t : Int) (A : Option Addr) (c : Nat) (qs : List Parc) (B : Nat) (w : World) (hB : B ≤ w.heap.size) (hl : qs.length * 56 ≤ 140737488351232) (hq : ParcsAt w B A qs) :
    Calls Try.prog 15 #[.agg #[.int .i64 now, .int .i64 ser, .slice A qs.length c], .int .i64 t] w fun e w' => StepAs w w' now ser t qs e := by
  by_cases ht : t < now ∨ 1099511627776 < t
  · refine (step_any now ser t A c qs B w hB hl hq ht).mono ?_
    rintro e w' ⟨rfl, hb⟩
    exact ⟨0, 0, none, 0, [], none, 0, [], 3, .inl ⟨ht, rfl, rfl, rfl, rfl, rfl⟩, rfl, ParcsAt.nil _ _ _, ParcsAt.nil _ _ _, hb⟩
  · refine (stepB_any now ser t A c qs B w hB hl hq (by omega) (by omega)).mono ?_
    rintro e w' ⟨A1, c1, A2, c2, rs, rfl, hs, h1, h2, hb⟩
    exact ⟨t, ser, A1, c1, _, A2, c2, rs, 0, .inr ⟨by omega, rfl, rfl, rfl, hs, rfl⟩, rfl, h2, h1, hb⟩
theorem refbstep_any (now ser t : Int) (A : Option Addr) (c : Nat) (qs : List Parc) (B : Nat) (w : World) (hB : B ≤ w.heap.size) (hl : qs.length * 56 ≤ 140737488351232) (hq : ParcsAt w B A qs) :
    Calls Try.prog 16 #[.agg #[.int .i64 now, .int .i64 ser, .slice A qs.length c], .int .i64 t] w fun e w' => StepAs w w' now ser t qs e := by
  by_cases ht : t < now ∨ 1099511627776 < t
  · refine (refstepA_any now ser t A c qs B w hB hl hq ht).mono ?_
    rintro e w' ⟨rfl, hb⟩
    exact ⟨0, 0, none, 0, [], none, 0, [], 3, .inl ⟨ht, rfl, rfl, rfl, rfl, rfl⟩, rfl, ParcsAt.nil _ _ _, ParcsAt.nil _ _ _, hb⟩
  · refine (refstepB_any now ser t A c qs B w hB hl hq (by omega) (by omega)).mono ?_
    rintro e w' ⟨A1, c1, A2, c2, rs, rfl, hs, h1, h2, hb⟩
    exact ⟨t, ser, A1, c1, _, A2, c2, rs, 0, .inr ⟨by omega, rfl, rfl, rfl, hs, rfl⟩, rfl, h2, h1, hb⟩
end Go.Proofs.Ytlcpackmoolngaa.Ss
