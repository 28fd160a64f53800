import Derived.Test.YtobigbnmbnhikaaPb0
import Derived.Test.YtobigbnmbnhikaaPb7
import Derived.Test.YtobigbnmbnhikaaPb10
import Derived.Test.YtobigbnmbnhikaaPbc16
set_option linter.unusedVariables false
set_option linter.unusedSimpArgs false
namespace Go.Proofs.Ytobigbnmbnhikaa
namespace Cl
open Go.RowKit Mem Rws Nd
theorem hb_succ (v : Int) (j : Nat) : Wr.hb v (j + 1) = Wr.hb (v / 256) j := by
 unfold Wr.hb
 rw [Int.pow_succ, Int.mul_comm, ← Int.ediv_ediv_of_nonneg (by omega)]
theorem emod_split (v b : Int) : v % (256 * b) = v % 256 + 256 * (v / 256 % b) := by
 rw [Int.emod_def v (256 * b), Int.emod_def v 256, Int.emod_def (v / 256) b, ← Int.ediv_ediv_of_nonneg (by omega), Int.mul_sub]; have : 256 * b * (v / 256 / b) = 256 * (b * (v / 256 / b)) := Int.mul_assoc ..; rw [this]; omega
theorem valB_of {bs : List Nat} : ∀ (n : Nat) (v : Int) (o : Nat), (∀ j, j < n → Ms.bAt bs (o + j) = Wr.hb v (n - 1 - j)) → (Ms.valB bs o n : Int) = v % 256 ^ n
 | 0, v, o, _ => by
  show ((0 : Nat) : Int) = _
  omega
 | n + 1, v, o, h => by
  have ih := valB_of n (v / 256) o (fun j hj => by
   rw [h j (by omega), show n + 1 - 1 - j = (n - 1 - j) + 1 by omega, hb_succ])
  have h0 := h n (by omega)
  rw [show n + 1 - 1 - n = 0 by omega] at h0
  unfold Ms.valB
  rw [h0]
  have h1 : ((Wr.hb v 0 : Nat) : Int) = v % 256 := by
   have := Wr.hb_int v 0; rw [Int.pow_zero, Int.ediv_one] at this; exact this
  have h2 : (256 : Int) ^ (n + 1) = 256 * 256 ^ n := by rw [Int.pow_succ, Int.mul_comm]
  rw [h2, emod_split, ← ih]
  generalize Ms.valB bs o n = V at *
  generalize Wr.hb v 0 = u at *
  omega
theorem hi_at (v : Int) : ∀ (n j : Nat), j < n → (Wr.hi v n)[j]? = some (Wr.hb v (n - 1 - j))
 | 0, j, h => by omega
 | n + 1, 0, h => by simp [Wr.hi]
 | n + 1, j + 1, h => by
  simp only [Wr.hi, List.getElem?_cons_succ]; rw [hi_at v n j (by omega)]
  congr 2
  omega
theorem vals_at : ∀ (zs : List Int) (i j : Nat) (hi : i < zs.length), j < 8 → (Wr.vals zs)[8 * i + j]? = some (Wr.hb (zs[i]) (7 - j))
 | [], i, j, hi, _ => by simp at hi
 | z :: zs, 0, j, hi, hj => by
  have : Wr.vals (z :: zs) = Wr.hi z 8 ++ Wr.vals zs := rfl; rw [this, Nat.mul_zero, Nat.zero_add, List.getElem?_append_left (by rw [Wr.hi_length]; exact hj)]; exact hi_at z 8 j hj
 | z :: zs, i + 1, j, hi, hj => by
  have : Wr.vals (z :: zs) = Wr.hi z 8 ++ Wr.vals zs := rfl
  rw [this, List.getElem?_append_right (by rw [Wr.hi_length]; omega), Wr.hi_length, show 8 * (i + 1) + j - 8 = 8 * i + j by omega]
  exact vals_at zs i j (by simpa using hi) hj
theorem bAt_enc {k f n : Int} {zs : List Int} {i : Nat} {b : Nat} (h : (Wr.body k f n zs zs.length)[i]? = some b) : Ms.bAt (Wr.enc k f n zs) i = b := by
 unfold Ms.bAt Wr.enc Sm.sealed
 rw [List.getD_eq_getElem?_getD, List.getElem?_append_left (List.getElem?_eq_some_iff.1 h).1, h]; rfl
theorem body_front {k f n : Int} {zs : List Int} {i : Nat} (h : i < 8) : (Wr.body k f n zs zs.length)[i]? = (Wr.front k f n zs.length)[i]? := by
 unfold Wr.body
 exact List.getElem?_append_left (by rw [Wr.front_length]; exact h)
theorem hb0_small {v : Int} (h0 : 0 ≤ v) (h1 : v < 256) : (Wr.hb v 0 : Int) = v := by rw [Wr.hb_int, Int.pow_zero, Int.ediv_one]; omega
theorem i64N_back {z : Int} {n : Nat} (h : (n : Int) = z % 256 ^ 8) (hz : -9223372036854775808 ≤ z ∧ z < 9223372036854775808) : Ms.i64N n = z := by
 unfold Ms.i64N
 rw [h, IntKind.wrap_i64]
 have : (256 : Int) ^ 8 = 18446744073709551616 := by decide
 rw [this]; omega
theorem came_enc {k f n : Int} {zs : List Int} (hw : Ms.wrong k f n zs.length = 0) (hz : ∀ z ∈ zs, -9223372036854775808 ≤ z ∧ z < 9223372036854775808) : came f (Wr.enc k f n zs) = some ⟨k, f, n, zs⟩ := by
 have hl := Wr.wrong_len hw
 have hb : 1 ≤ k ∧ k ≤ 5 ∧ 0 ≤ f ∧ f ≤ 3 ∧ 0 ≤ n ∧ n ≤ 2147483647 := by
  unfold Ms.wrong at hw
  split at hw
  · omega
  ·
   split at hw
   · omega
   · split at hw <;> omega
 have hlen : (Wr.enc k f n zs).length = 12 + 8 * zs.length := by rw [enc_len]
 have b0 : Ms.bAt (Wr.enc k f n zs) 0 = 87 := bAt_enc (by rw [body_front (by omega)]; rfl); have b1 : Ms.bAt (Wr.enc k f n zs) 1 = Wr.hb k 0 := bAt_enc (by rw [body_front (by omega)]; rfl); have b2 : Ms.bAt (Wr.enc k f n zs) 2 = Wr.hb f 0 := bAt_enc (by rw [body_front (by omega)]; rfl); have b7 : Ms.bAt (Wr.enc k f n zs) 7 = zs.length % 256 := bAt_enc (by rw [body_front (by omega)]; rfl)
 have e1 : ((Ms.bAt (Wr.enc k f n zs) 1 : Nat) : Int) = k := by rw [b1]; exact hb0_small (by omega) (by omega)
 have e2 : ((Ms.bAt (Wr.enc k f n zs) 2 : Nat) : Int) = f := by rw [b2]; exact hb0_small (by omega) (by omega)
 have eN : Ms.decN (Wr.enc k f n zs) = zs.length := by unfold Ms.decN; rw [b7]; omega
 have e3 : ((Ms.valB (Wr.enc k f n zs) 3 4 : Nat) : Int) = n := by
  rw [valB_of 4 n 3 (fun j hj => bAt_enc (by
   rw [body_front (by omega)]
   obtain rfl | rfl | rfl | rfl : j = 0 ∨ j = 1 ∨ j = 2 ∨ j = 3 := by omega
   all_goals rfl))]
  have : (256 : Int) ^ 4 = 4294967296 := by decide
  rw [this]; omega
 have eZ : Ms.decZ (Wr.enc k f n zs) zs.length = zs := by
  refine List.ext_getElem (by rw [Ms.decZ_len]) fun i h1 h2 => ?_
  have e : (Ms.decZ (Wr.enc k f n zs) zs.length)[i] = Ms.i64N (Ms.valB (Wr.enc k f n zs) (8 + 8 * i) 8) := by simp [Ms.decZ]
  rw [e]; refine i64N_back (valB_of 8 zs[i] (8 + 8 * i) (fun j hj => bAt_enc ?_)) (hz _ (List.getElem_mem h2))
  unfold Wr.body
  rw [List.take_length, List.getElem?_append_right (by rw [Wr.front_length]; omega), Wr.front_length, show 8 + 8 * i + j - 8 = 8 * i + j by omega]
  exact vals_at zs i j h2 hj
 have hok : Sm.okB (Wr.enc k f n zs) = true := by
  unfold Sm.okB
  rw [decide_eq_true (by omega), Bool.true_and]; refine decide_eq_true ?_; have hbl := Wr.body_length k f n zs zs.length (Nat.le_refl _)
  have : (Wr.enc k f n zs).take ((Wr.enc k f n zs).length - 4) = Wr.body k f n zs zs.length := by
   rw [hlen, show 12 + 8 * zs.length - 4 = (Wr.body k f n zs zs.length).length by omega]
   unfold Wr.enc Sm.sealed
   exact List.take_left ..
  rw [this]; rfl
 have hE : Ms.decE (Wr.enc k f n zs) = 0 := by
  unfold Ms.decE
  rw [if_neg (by omega), if_neg (by omega), if_neg (by rw [hok]; simp), eN, if_neg (by omega), if_neg (by omega), e1, e2, e3]; exact hw
 unfold came
 rw [if_pos ⟨hE, e2⟩, e1, e3, eN, eZ]
theorem i64N_in (n : Nat) : -9223372036854775808 ≤ Ms.i64N n ∧ Ms.i64N n < 9223372036854775808 := by unfold Ms.i64N; rw [IntKind.wrap_i64]; omega
theorem came_in {f : Int} {bs : List Nat} {m : Ms.Msg} (h : came f bs = some m) : ∀ z ∈ m.zs, -9223372036854775808 ≤ z ∧ z < 9223372036854775808 := by
 unfold came at h
 split at h
 ·
  injection h with h
  subst h; intro z hz; obtain ⟨i, _, rfl⟩ := List.mem_map.1 hz; exact i64N_in _
 · cases h
theorem phX_in (bad ph : Int) (ls : List Lie) (mk mf mn : Nat → Int) (mz : Nat → List Int) (n i : Nat) : ∀ m ∈ phX bad ph ls mk mf mn mz n i, ∀ z ∈ m.zs, -9223372036854775808 ≤ z ∧ z < 9223372036854775808 := fun m h => by
 rw [phX_part] at h; obtain ⟨s, _, h⟩ := List.mem_flatMap.1 h
 unfold part at h
 split at h
 ·
  obtain ⟨l, _, _, _, h2⟩ := lieP_from h; exact came_in h2
 · exact came_in (postP_from h)
end Cl
namespace Cf
open Go.RowKit Mem Rws Nd Cl
def WfF (f : Nat → Value) : Prop := ∀ i z, i < 73 → f i = .int .i64 z → Wf z
theorem wf_of {z : Int} (h : -9223372036854775808 ≤ z ∧ z < 9223372036854775808) : Wf z := by
 unfold Wf
 simp [Lit.wf, IntKind.min, IntKind.max, IntKind.signed, IntKind.bits]
 omega
theorem wf_in {z : Int} (h : BigW.In64 z) : Wf z := wf_of (by unfold BigW.In64 at h; omega)
theorem int_inj {a b : Int} (h : Value.int .i64 a = .int .i64 b) : a = b := by injection h
theorem wf_sense {f : Nat → Value} (h : WfF f) {fr : Int} (hf : Wf fr) (k : Nat) {r0 r1 r2 : Int} (h0 : Wf r0) (h1 : Wf r1) (h2 : Wf r2) : WfF (senseF f fr k r0 r1 r2) := fun i z hi e => by
 unfold senseF over at e
 split at e
 ·
  unfold rd3 at e
  split at e
  · rw [← int_inj e]; exact h0
  ·
   split at e
   · rw [← int_inj e]; exact h1
   · rw [← int_inj e]; exact h2
 ·
  split at e
  · rw [← int_inj e]; exact wf_zero
  ·
   split at e
   · rw [← int_inj e]; exact wf_zero
   ·
    dsimp only at e
    split at e
    · rw [← int_inj e]; exact hf
    · exact h i z hi e
theorem wf_getD {zs : List Int} (h : ∀ z ∈ zs, Wf z) (k : Nat) : Wf (zs.getD k 0) := by
 rw [List.getD_eq_getElem?_getD]
 cases e : zs[k]? with
 | none => exact wf_zero
 | some z => exact h z (List.mem_of_getElem? e)
theorem wf_relay {f : Nat → Value} (h : WfF f) {rv : Nat → Option (List Int)} (hr : ∀ i zs, rv i = some zs → ∀ z ∈ zs, Wf z) (k : Nat) : WfF (relayK f rv k) := fun i z hi e => by
 unfold relayK at e
 split at e
 ·
  cases e1 : rv ((i - 39) / 3) with
  | none => rw [e1] at e; exact h i z hi e
  | some zs =>
   rw [e1] at e; rw [← int_inj e]; exact wf_getD (hr _ _ e1) _
 · exact h i z hi e
theorem wf_pass {f : Nat → Value} (h : WfF f) {pv : Nat → Option Int} (hr : ∀ i z, pv i = some z → Wf z) (k : Nat) : WfF (passK f pv k) := fun i z hi e => by
 unfold passK at e
 split at e
 ·
  cases e1 : pv (i - 51) with
  | none => rw [e1] at e; exact h i z hi e
  | some y =>
   rw [e1] at e; rw [← int_inj e]; exact hr _ _ e1
 · exact h i z hi e
theorem digest_wf (f : Nat → Value) : Wf (digestZ f) := wf_of (by
 unfold digestZ SumLaw.more
 have := SumLaw.over_lt (Wr.vals (packZ f)) (4294967295 - ((0 : Int) % 4294967296).toNat) (by omega) (Wr.vals_small _)
 omega)
theorem upd_missed {s : BigW.St} (h : Wf s.missed) (dt q r gate z : Int) : Wf (BigW.fstep s dt q r gate z).1.missed := by
 unfold BigW.fstep BigW.update
 dsimp only
 split
 · exact wf_of (by show _ ≤ IntKind.i64.wrap _ ∧ IntKind.i64.wrap _ < _; rw [IntKind.wrap_i64]; omega)
 · exact wf_zero
theorem stCell_wf {s : BigW.St} (h : BigW.StIn s) (hm : Wf s.missed) (j : Nat) {z : Int} (e : stCell s j = .int .i64 z) : Wf z := by
 obtain ⟨h1, h2, h3, h4, h5⟩ := h
 unfold stCell at e
 rcases Nat.lt_or_ge j 7 with hj | hj
 ·
  obtain rfl | rfl | rfl | rfl | rfl | rfl | rfl : j = 0 ∨ j = 1 ∨ j = 2 ∨ j = 3 ∨ j = 4 ∨ j = 5 ∨ j = 6 := by omega
  · rw [← int_inj e]; exact wf_in h1
  · rw [← int_inj e]; exact wf_in h2
  · rw [← int_inj e]; exact wf_in h3
  · rw [← int_inj e]; exact wf_in h4
  · rw [← int_inj e]; exact wf_in h5
  · cases e
  · rw [← int_inj e]; exact hm
 ·
  rw [show (BigW.stC s).getD j (.int .i64 0) = .int .i64 0 from by unfold Array.getD; exact dif_neg (by show ¬ j < 7; omega)] at e
  rw [← int_inj e]; exact wf_zero
theorem wf_decG {f : Nat → Value} (hf : ∀ i, i < 73 → okT (nodeT i) (f i)) (h : WfF f) {z : Nat → Int} (hz : ∀ j, j < 12 → BigW.In64 (z j)) : WfF (decG f z allP 3 3) := fun i y hi e => by
 unfold decG at e
 split at e
 ·
  rename_i h6
  have ha : (i - 6) / 7 < 3 := by omega
  refine stCell_wf (s := newSt f z ((i - 6) / 7)) (BigW.step_in (st_in hf h _ ha) _ _ _ _ _) (upd_missed ?_ _ _ _ _ _) _ e; exact h (6 + ((i - 6) / 7 * 7 + 6)) _ (by omega) (cell_int hf _ (by omega) (by rw [nodeT_ax _ (by omega) (by omega)]; simp; try omega))
 ·
  split at e
  ·
   rename_i h7
   rw [← int_inj e]; exact wf_in (hz _ (by omega))
  ·
   split at e
   ·
    rename_i h8
    rw [← int_inj e]; exact wf_in (used_in hz _ (by omega))
   · exact h i y hi e
theorem wf_dec {f : Nat → Value} (hf : ∀ i, i < 73 → okT (nodeT i) (f i)) (h : WfF f) {z : Nat → Int} (hz : ∀ j, j < 12 → BigW.In64 (z j)) (k : Nat) : WfF (decF k z f) := fun i y hi e => by
 unfold decF at e
 split at e
 · rw [← int_inj e]; exact digest_wf _
 · exact wf_decG hf h hz i y hi e
def Bnd (s : RS) : Prop := ∀ i, i < 4 → (0 ≤ s.m i ∧ s.m i ≤ 2) ∧ (0 ≤ s.j i ∧ s.j i ≤ 2)
theorem bnd_good {s : RS} (h : okTo s.f s.m s.j 4 = true) : Bnd s := fun i hi => by
 have hg : GoodAt s i := okTo_at h i hi
 cases e : s.f i with
 | true => have := good_in hg e; omega
 | false => have := good_out hg e; omega
theorem upd_cases {α : Type} (g : Nat → α) (i : Nat) (v : α) (k : Nat) : upd g i v k = v ∨ upd g i v k = g k := by
 by_cases h : k = i
 · exact .inl (by rw [h, upd_same])
 · exact .inr (upd_other g v h)
theorem bnd_one {s : RS} (h : Bnd s) (i : Nat) (hi : i < 4) (b : Bool) : Bnd (Nd.one s i b).1 := fun k hk => by
 have h1 := h k hk; have h2 := h i hi
 unfold Nd.one
 (repeat' split) <;> dsimp only
 · rcases upd_cases s.m i 0 k with e | e <;> rw [e] <;> omega
 · rcases upd_cases s.m i 0 k with e | e <;> rw [e] <;> omega
 · rcases upd_cases s.m i (min (s.m i + 1) 2) k with e | e <;> rw [e] <;> omega
 · rcases upd_cases s.j i 0 k with e | e <;> rw [e] <;> omega
 · rcases upd_cases s.j i 0 k with e | e <;> rw [e] <;> omega
 · rcases upd_cases s.j i (s.j i + 1) k with e | e <;> rw [e] <;> omega
theorem bnd_many {s : RS} (h : Bnd s) (ag : Nat → Bool) : ∀ n, n ≤ 4 → Bnd (many s ag n).1
 | 0, _ => h
 | n + 1, hn => by
  unfold many
  exact bnd_one (bnd_many h ag n (by omega)) n (by omega) _
theorem bnd_step {s : RS} {st : Bool} {bs : List Bool} (h : (stepR s st bs).2.2 = 0) : Bnd (stepR s st bs).1 := by
 unfold stepR at h ⊢
 by_cases h1 : bs.length ≠ 4
 · rw [if_pos h1] at h; cases h
 rw [if_neg h1] at h ⊢
 by_cases h2 : okTo s.f s.m s.j 4 = false
 · rw [if_pos h2] at h; cases h
 rw [if_neg h2] at h ⊢; have hb := bnd_good (by simpa using h2)
 by_cases h3 : st = false
 · rw [if_pos h3]; exact hb
 · rw [if_neg h3]; exact bnd_many hb _ 4 (Nat.le_refl _)
theorem wf_rollW {f : Nat → Value} (h : WfF f) {r : RS} (hr : ∀ i, i < 4 → Wf (r.m i) ∧ Wf (r.j i)) : WfF (rollW f r) := fun i z hi e => by
 unfold rollW at e
 split at e
 ·
  unfold rollF at e
  split at e
  · cases e
  ·
   split at e
   · rw [← int_inj e]; exact (hr _ (by omega)).1
   · rw [← int_inj e]; exact (hr _ (by omega)).2
 · exact h i z hi e
theorem rv_cases (L : Nat → Int) (I : Nat → Bool) : ∀ k, k ≤ 4 → Vt.rv L I k = 0 ∨ ∃ i, i < 4 ∧ I i = true ∧ Vt.rv L I k = L i
 | 0, _ => .inl rfl
 | k + 1, hk => by
  unfold Vt.rv
  split
  ·
   rename_i h
   exact .inr ⟨k, by omega, h.1, rfl⟩
  · exact rv_cases L I k (by omega)
theorem wf_vote {f : Nat → Value} (h : WfF f) {v : Int} (hv : Wf v) (st : Bool) : WfF (voteF f v st) := fun i z hi e => by
 unfold voteF at e
 split at e
 · rw [← int_inj e]; exact hv
 ·
  split at e
  · cases e
  · exact h i z hi e
theorem wf_judge {f : Nat → Value} (h : WfF f) {L : Nat → Int} (hL : ∀ i, i < 4 → Wf (L i)) : WfF (judgeF L f) := by
 have hv : Wf (Vt.val L (inB f)) := by
  rcases rv_cases L (inB f) 4 (Nat.le_refl _) with e | ⟨i, hi, _, e⟩
  · unfold Vt.val; rw [e]; exact wf_zero
  · unfold Vt.val; rw [e]; exact hL i hi
 unfold judgeF
 split
 ·
  rename_i h0
  refine wf_rollW (wf_vote h hv _) fun i hi => ?_; have hb : Bnd (judgeR L f).1 := bnd_step h0; have := hb i hi; exact ⟨wf_of (by omega), wf_of (by omega)⟩
 · exact wf_vote h hv _
theorem zAt_wf {zs : List Int} (h : ∀ z ∈ zs, Wf z) (i : Nat) : Wf (zAt zs i) := wf_getD h i
theorem octAt_wf (v : Int) (i : Nat) : Wf (octAt v i) := wf_of (by unfold octAt; omega)
theorem wf_take {f : Nat → Value} (h : WfF f) {zs : List Int} (hz : ∀ z ∈ zs, Wf z) : WfF (takeU zs f) := by
 unfold takeU
 split
 ·
  unfold unpackF
  refine wf_rollW (fun i z hi e => ?_) fun i hi => ⟨octAt_wf _ _, octAt_wf _ _⟩
  unfold axU at e
  split at e
  ·
   unfold axV at e
   split at e
   · cases e
   · rw [← int_inj e]; exact zAt_wf hz _
  · exact h i z hi e
 · exact h
theorem pair_from {o : Nat → Option Ms.Msg} {zs : List Int} (h : pairOf o = some zs) : ∃ i m, o i = some m ∧ m.zs = zs := by
 unfold pairOf at h
 obtain ⟨p, _, hp⟩ := List.exists_of_findSome?_eq_some h
 unfold pairAt at hp
 cases e : o p.1 with
 | none => rw [e] at hp; cases hp
 | some a =>
  rw [e] at hp
  cases e2 : o p.2 with
  | none => rw [e2] at hp; cases hp
  | some b =>
   rw [e2] at hp; dsimp only at hp
   split at hp
   ·
    injection hp with hp
    exact ⟨_, a, e, hp⟩
   · cases hp
theorem wf_close {f : Nat → Value} (h : WfF f) {o : Nat → Option Ms.Msg} (ho : ∀ i m, o i = some m → ∀ z ∈ m.zs, Wf z) : WfF (closeF o f) := by
 unfold closeF
 split
 ·
  unfold adoptF
  cases e : pairOf o with
  | none => exact h
  | some zs =>
   obtain ⟨i, m, hm, rfl⟩ := pair_from e; exact wf_take h (ho i m hm)
 · exact h
def Good (bad fr : Int) (F : Nat → Nat → Value) : Prop := ∀ i : Nat, i < 4 → (i : Int) ≠ bad → F i 0 = .int .i64 (i : Int) ∧ F i 1 = .int .i64 fr ∧ (∀ j, j < 73 → okT (nodeT j) (F i j)) ∧ WfF (F i)
theorem Good.new {bad fr : Int} {G F : Nat → Nat → Value} (h : Good bad fr G) : Good bad fr (newK bad G F 4) := fun i hi hb => by
 rw [newK_good hi hb]; exact h i hi hb
theorem phX_wf (bad ph : Int) (ls : List Lie) (mk mf mn : Nat → Int) (mz : Nat → List Int) (n i : Nat) : ∀ m ∈ phX bad ph ls mk mf mn mz n i, ∀ z ∈ m.zs, Wf z := fun m hm z hz => wf_of (phX_in bad ph ls mk mf mn mz n i m hm z hz)
theorem first_wf {id fr kind : Int} {many : Nat} {fm : Int} {ms : List Ms.Msg} {m : Ms.Msg} (hw : ∀ m ∈ ms, ∀ z ∈ m.zs, Wf z) (h : Ms.firstOf id fr kind many fm ms = some m) : ∀ z ∈ m.zs, Wf z := hw m (List.mem_of_find?_eq_some h)
section
variable {c : CluS} {x : InS}
theorem good1 (hs : Sane c) (hrd : ∀ i, i < 12 → Wf (x.rd i)) : Good x.bad c.fr (F1 c x) := Good.new fun i hi hb =>
 ⟨(sense0 _ _ _ hi _ _ _).trans (hs.id i hi), sense1 _ _ _ hi _ _ _, ok_sense (hs.ok i hi) _ _ hi _ _ _, wf_sense (hs.wf i hi) (wf_of (by have := hs.fr; omega)) _ (hrd _ (by omega)) (hrd _ (by omega)) (hrd _ (by omega))⟩
theorem good2 (h : Good x.bad c.fr (F1 c x)) : Good x.bad c.fr (F2 c x) := Good.new fun i hi hb => by
 obtain ⟨h1, h2, h3, h4⟩ := h i hi hb; refine ⟨(relayK_low _ _ _ _ (by omega)).trans h1, (relayK_low _ _ _ _ (by omega)).trans h2, ok_relay h3 _ _ (Nat.le_refl _), wf_relay h4 (fun j zs e z hz => ?_) 4⟩
 unfold relayV at e
 obtain ⟨m, hm, rfl⟩ := Option.map_eq_some_iff.1 e; exact first_wf (phX_wf _ _ _ _ _ _ _ _ _) hm z hz
theorem agreed_in (h : Good x.bad c.fr (F2 c x)) {i : Nat} (hi : i < 4) (hb : (i : Int) ≠ x.bad) : ∀ j, j < 12 → BigW.In64 (A3 c x i j) := by
 obtain ⟨h1, h2, h3, h4⟩ := h i hi hb; exact wf_agreed h3 h4 (phX_wf _ _ _ _ _ _ _ _ _) _ _
theorem dec_low (k : Nat) (z : Nat → Int) (f : Nat → Value) (i : Nat) (hi : i < 6) : decF k z f i = f i := by
 unfold decF
 rw [if_neg (by omega), decG_low _ _ _ _ _ _ (by omega) (by omega) (by omega)]
theorem good3 (h : Good x.bad c.fr (F2 c x)) : Good x.bad c.fr (F3 c x) := Good.new fun i hi hb => by
 obtain ⟨h1, h2, h3, h4⟩ := h i hi hb; exact ⟨(dec_low _ _ _ _ (by omega)).trans h1, (dec_low _ _ _ _ (by omega)).trans h2, ok_decF h3 _ hi _, wf_dec h3 h4 (agreed_in h hi hb) _⟩
theorem good4 (h : Good x.bad c.fr (F3 c x)) : Good x.bad c.fr (F4 c x) := Good.new fun i hi hb => by
 obtain ⟨h1, h2, h3, h4⟩ := h i hi hb; refine ⟨(passK_low _ _ _ _ (by omega)).trans h1, (passK_low _ _ _ _ (by omega)).trans h2, ok_pass h3 _ _ (Nat.le_refl _), wf_pass h4 (fun j z e => ?_) 4⟩
 unfold passV at e
 obtain ⟨m, hm, rfl⟩ := Option.map_eq_some_iff.1 e; exact wf_getD (first_wf (phX_wf _ _ _ _ _ _ _ _ _) hm) 0
theorem judge_low (L : Nat → Int) (f : Nat → Value) (i : Nat) (hi : i < 27) : judgeF L f i = f i := by
 unfold judgeF
 split
 ·
  unfold rollW voteF
  rw [if_neg (by omega), if_neg (by omega), if_neg (by omega)]
 ·
  unfold voteF
  rw [if_neg (by omega), if_neg (by omega)]
theorem digests_wf (h : Good x.bad c.fr (F4 c x)) {i : Nat} (hi : i < 4) (hb : (i : Int) ≠ x.bad) : ∀ s, s < 4 → Wf (L5 c x i s) := fun s hs => by
 obtain ⟨h1, h2, h3, h4⟩ := h i hi hb
 unfold L5 digestsZ
 refine wf_taken ?_ fun j m hm => first_wf (phX_wf _ _ _ _ _ _ _ _ _) hm; exact h4 (51 + s) _ (by omega) (cell_int h3 (51 + s) (by omega) (by unfold nodeT; simp; omega))
theorem good5 (h : Good x.bad c.fr (F4 c x)) : Good x.bad c.fr (F5 c x) := Good.new fun i hi hb => by
 obtain ⟨h1, h2, h3, h4⟩ := h i hi hb; exact ⟨(judge_low _ _ _ (by omega)).trans h1, (judge_low _ _ _ (by omega)).trans h2, ok_judge h3 _, wf_judge h4 (digests_wf h hi hb)⟩
theorem good6 (h : Good x.bad c.fr (F5 c x)) : Good x.bad c.fr (F6 c x) := Good.new fun i hi hb => by
 obtain ⟨h1, h2, h3, h4⟩ := h i hi hb; exact ⟨(close_keep _ _ _ (by omega)).trans h1, (close_keep _ _ _ (by omega)).trans h2, ok_close h3 _, wf_close h4 fun j m hm => first_wf (phX_wf _ _ _ _ _ _ _ _ _) hm⟩
theorem stays (b : Nat) (hb : (b : Int) = x.bad) : F6 c x b = c.F b := by
 unfold F6 F5 F4 F3 F2 F1
 rw [newK_bad hb, newK_bad hb, newK_bad hb, newK_bad hb, newK_bad hb, newK_bad hb]
theorem sane_next (hs : Sane c) (hrd : ∀ i, i < 12 → Wf (x.rd i)) (hfr : c.fr + 1 < 1073741824) : Sane (next c x) := by
 have hg := good6 (good5 (good4 (good3 (good2 (good1 hs hrd)))))
 refine ⟨fun i hi => ?_, fun i hi => ?_, fun i hi => ?_, ⟨by have := hs.fr; show 0 ≤ c.fr + 1; omega, hfr⟩, fun i hi => ?_⟩
 ·
  by_cases hb : (i : Int) = x.bad
  · show F6 c x i 0 = _; rw [stays i hb]; exact hs.id i hi
  · exact (hg i hi hb).1
 ·
  by_cases hb : (i : Int) = x.bad
  · show ∀ j, j < 73 → okT (nodeT j) (F6 c x i j); rw [stays i hb]; exact hs.ok i hi
  · exact (hg i hi hb).2.2.1
 ·
  by_cases hb : (i : Int) = x.bad
  · show WfF (F6 c x i); rw [stays i hb]; exact hs.wf i hi
  · exact (hg i hi hb).2.2.2
 ·
  show (W5 c x i).length ≤ _
  unfold W5
  by_cases hb : (i : Int) = x.bad
  · rw [newK_bad hb]; exact hs.v i hi
  · rw [newK_good hi hb]; show (agreeL _ _).length ≤ _; unfold agreeL; simp
end
end Cf
namespace Cf
open Go.RowKit Mem Rws Nd Cl
def m3 (a b c : Int) : Int := if a = b ∨ a = c then a else if b = c then b else 0
theorem maj3 (a b c : Int) : MajLaw.maj [a, b, c] 0 = m3 a b c := by
 unfold m3
 by_cases h1 : a = b ∨ a = c
 ·
  rw [if_pos h1]; refine MajLaw.maj_found ?_
  unfold MajLaw.cnt
  simp only [List.count_cons, List.count_nil, List.length_cons, List.length_nil, beq_iff_eq]
  rcases h1 with h | h <;> subst h <;> simp <;> (repeat' split) <;> omega
 ·
  rw [if_neg h1]
  by_cases h2 : b = c
  ·
   rw [if_pos h2]; refine MajLaw.maj_found ?_; subst h2
   unfold MajLaw.cnt
   simp only [List.count_cons, List.count_nil, List.length_cons, List.length_nil, beq_iff_eq]
   simp
   (repeat' split) <;> omega
  ·
   rw [if_neg h2]; have h3 : a ≠ b ∧ a ≠ c := ⟨fun e => h1 (.inl e), fun e => h1 (.inr e)⟩; refine MajLaw.maj_none fun i hi => ?_; simp only [List.length_cons, List.length_nil] at hi
   unfold MajLaw.cnt
   obtain rfl | rfl | rfl : i = 0 ∨ i = 1 ∨ i = 2 := by omega
   all_goals
    simp [List.count_cons, h3.1, h3.2, h2, Ne.symm h3.1, Ne.symm h3.2, Ne.symm h2]
theorem m3_swap (a b c : Int) : m3 a b c = m3 b a c ∧ m3 a b c = m3 a c b := by unfold m3; constructor <;> (repeat' split) <;> omega
def oth (b k : Nat) : Nat := if k < b then k else k + 1
def sum3 (b : Nat) (D : Nat → Int) : Int := m3 (D (oth b 0)) (D (oth b 1)) (D (oth b 2))
theorem taken_own {id : Nat} (hd : Int) (k : Nat) (o : Nat → Option Ms.Msg) : takenZ id id hd k o = hd := if_pos rfl
theorem taken_two {id ab : Nat} (h1 : id < 4) (h2 : ab < 4) (hne : ab ≠ id) (hd : Int) (k : Nat) (o : Nat → Option Ms.Msg) : ∃ p q, p < 4 ∧ q < 4 ∧ p < q ∧ p ≠ id ∧ p ≠ ab ∧ q ≠ id ∧ q ≠ ab ∧ takenZ id ab hd k o = m3 hd (numAt k (o p)) (numAt k (o q)) := by
 unfold takenZ
 rw [if_neg hne]
 have h : ∃ p q, p < 4 ∧ q < 4 ∧ p < q ∧ p ≠ id ∧ p ≠ ab ∧ q ≠ id ∧ q ≠ ab ∧ toldL id ab k o 4 = [numAt k (o p), numAt k (o q)] := by
  rcases (show id = 0 ∨ id = 1 ∨ id = 2 ∨ id = 3 by omega) with rfl | rfl | rfl | rfl <;> rcases (show ab = 0 ∨ ab = 1 ∨ ab = 2 ∨ ab = 3 by omega) with rfl | rfl | rfl | rfl <;>
   first
    | exact absurd rfl hne
    | exact ⟨0, 1, by omega, by omega, by omega, by omega, by omega, by omega, by omega, rfl⟩
    | exact ⟨0, 2, by omega, by omega, by omega, by omega, by omega, by omega, by omega, rfl⟩
    | exact ⟨0, 3, by omega, by omega, by omega, by omega, by omega, by omega, by omega, rfl⟩
    | exact ⟨1, 2, by omega, by omega, by omega, by omega, by omega, by omega, by omega, rfl⟩
    | exact ⟨1, 3, by omega, by omega, by omega, by omega, by omega, by omega, by omega, rfl⟩
    | exact ⟨2, 3, by omega, by omega, by omega, by omega, by omega, by omega, by omega, rfl⟩
 obtain ⟨p, q, g1, g2, g3, g4, g5, g6, g7, e⟩ := h; exact ⟨p, q, g1, g2, g3, g4, g5, g6, g7, by rw [e, maj3]⟩
theorem taken_good {bad : Int} {id ab k : Nat} {o : Nat → Option Ms.Msg} {v hd : Int} (h1 : id < 4) (h2 : ab < 4) (hi : (id : Int) ≠ bad) (hb : (ab : Int) ≠ bad) (hh : hd = v) (ho : ∀ p, p < 4 → p ≠ id → (p : Int) ≠ bad → numAt k (o p) = v) : takenZ id ab hd k o = v := by
 by_cases e : ab = id
 · subst e; rw [taken_own]; exact hh
 ·
  obtain ⟨p, q, g1, g2, g3, g4, g5, g6, g7, e2⟩ := taken_two h1 h2 e hd k o; rw [e2, hh]
  unfold m3
  by_cases hp : (p : Int) = bad
  ·
   have := ho q g2 g6 (by omega); rw [if_pos (.inr this.symm)]
  ·
   have := ho p g1 g4 hp; rw [if_pos (.inl this.symm)]
theorem taken_bad {id b k : Nat} {o : Nat → Option Ms.Msg} {D : Nat → Int} (h1 : id < 4) (h2 : b < 4) (hne : b ≠ id) (ho : ∀ p, p < 4 → p ≠ id → p ≠ b → numAt k (o p) = D p) : takenZ id b (D id) k o = sum3 b D := by
 obtain ⟨p, q, g1, g2, g3, g4, g5, g6, g7, e2⟩ := taken_two h1 h2 hne (D id) k o; rw [e2, ho p g1 g4 g5, ho q g2 g6 g7]
 unfold sum3
 obtain ⟨x, hx, y, hy, z, hz, hset⟩ : ∃ x, oth b 0 = x ∧ ∃ y, oth b 1 = y ∧ ∃ z, oth b 2 = z ∧ x < y ∧ y < z ∧ z < 4 ∧ x ≠ b ∧ y ≠ b ∧ z ≠ b := by
  refine ⟨_, rfl, _, rfl, _, rfl, ?_⟩
  unfold oth
  (repeat' split) <;> omega
 rw [hx, hy, hz]
 have hc : (id = x ∧ p = y ∧ q = z) ∨ (id = y ∧ p = x ∧ q = z) ∨ (id = z ∧ p = x ∧ q = y) := by omega
 rcases hc with ⟨rfl, rfl, rfl⟩ | ⟨rfl, rfl, rfl⟩ | ⟨rfl, rfl, rfl⟩
 · rfl
 · exact (m3_swap _ _ _).1
 ·
  rw [(m3_swap (D id) (D p) (D q)).1]; exact (m3_swap _ _ _).2
theorem heard_good {bad ph fr kind : Int} {ls : List Lie} {mz : Nat → List Int} {i j many : Nat} (hi : i < 4) (hj : j < 4) (hij : i ≠ j) (hb : (j : Int) ≠ bad) (hk : 1 ≤ kind ∧ kind ≤ 5) (hfr : 0 ≤ fr ∧ fr < 1073741824) (hl : (mz j).length = many) (hm : many ≤ 24) (hz : ∀ z ∈ mz j, Wf z) :
  Ms.firstOf (i : Int) fr kind many (j : Int) (phX bad ph ls (fun _ => kind) nod (fun _ => fr) mz 4 i) = some ⟨kind, (j : Int), fr, mz j⟩ := by
 have h1 := first_part bad ph ls (fun _ => kind) (fun _ => fr) mz i j hj (i : Int) fr kind many; have h2 : Ms.firstOf (i : Int) fr kind many (j : Int) (phX bad ph ls (fun _ => kind) nod (fun _ => fr) mz 4 i) = (Cl.part bad ph ls (fun _ => kind) (fun s => (s : Int)) (fun _ => fr) mz i j).find? (Ms.fit (i : Int) fr kind many (j : Int)) := h1; rw [h2]
 have hw : Ms.wrong kind (j : Int) fr (mz j).length = 0 := by
  unfold Ms.wrong
  rw [if_neg (by omega), if_neg (by omega), if_neg (by omega)]
 unfold Cl.part postP
 dsimp only; rw [if_neg hb, if_neg (fun h => h hw), if_pos ⟨hi, by omega⟩, came_enc hw (fun z hz' => by have := Op.wf_i64 (hz z hz'); omega)]
 show List.find? _ [_] = _
 have hf : Ms.fit (i : Int) fr kind many (j : Int) ⟨kind, (j : Int), fr, mz j⟩ = true := by
  unfold Ms.fit
  have hji : ((j : Int) != (i : Int)) = true := by simp; omega
  simp [hji, hl]
 rw [List.find?_cons_of_pos hf]
end Cf
namespace Cf
open Go.RowKit Mem Rws Nd Cl
structure Alike (c : CluS) (bad : Int) : Prop where
 same : ∀ p q : Nat, p < 4 → q < 4 → (p : Int) ≠ bad → (q : Int) ≠ bad → ∀ j, 2 ≤ j → j < 39 → c.F p j = c.F q j
 inn : ∀ p q : Nat, p < 4 → q < 4 → (p : Int) ≠ bad → (q : Int) ≠ bad → inB (c.F p) q = true ∧ (rollOf (c.F p)).m q = 0
 roll : ∀ p : Nat, p < 4 → (p : Int) ≠ bad → okTo (rollOf (c.F p)).f (rollOf (c.F p)).m (rollOf (c.F p)).j 4 = true
section
variable {c : CluS} {x : InS}
theorem getD3 (a b d : Int) (k : Nat) (hk : k < 3) (g : Nat → Int) (h0 : g 0 = a) (h1 : g 1 = b) (h2 : g 2 = d) : [a, b, d].getD k 0 = g k := by
 obtain rfl | rfl | rfl : k = 0 ∨ k = 1 ∨ k = 2 := by omega
 · exact h0.symm
 · exact h1.symm
 · exact h2.symm
theorem dir_own (hs : Sane c) {i : Nat} (hi : i < 4) (hb : (i : Int) ≠ x.bad) (a : Nat) (ha : a < 3) : F1 c x i (39 + (i * 3 + a)) = .int .i64 (x.rd (i * 3 + a)) := by
 unfold F1
 rw [newK_good hi hb]
 unfold G1 senseF
 rw [over_in (by omega) (by omega), show 39 + (i * 3 + a) - (39 + i * 3) = a by omega]
 unfold rd3
 obtain rfl | rfl | rfl : a = 0 ∨ a = 1 ∨ a = 2 := by omega
 all_goals rfl
theorem hear1 (hs : Sane c) (hrd : ∀ i, i < 12 → Wf (x.rd i)) {i j : Nat} (hi : i < 4) (hj : j < 4) (hij : i ≠ j) (hb : (j : Int) ≠ x.bad) : Ms.firstOf (i : Int) c.fr 1 3 (j : Int) (X1 c x i) = some ⟨1, (j : Int), c.fr, rds x j⟩ :=
 heard_good hi hj hij hb (by omega) hs.fr rfl (by omega) (fun z hz => by
  unfold rds at hz
  simp only [List.mem_cons, List.mem_nil_iff, or_false] at hz
  rcases hz with rfl | rfl | rfl
  · exact hrd _ (by omega)
  · exact hrd _ (by omega)
  · exact hrd _ (by omega))
theorem dir_good (hs : Sane c) (hrd : ∀ i, i < 12 → Wf (x.rd i)) {i j : Nat} (hi : i < 4) (hj : j < 4) (hbi : (i : Int) ≠ x.bad) (hb : (j : Int) ≠ x.bad) (a : Nat) (ha : a < 3) : G2 c x i (39 + (j * 3 + a)) = .int .i64 (x.rd (j * 3 + a)) := by
 unfold G2 relayK
 rw [if_pos (by omega), show (39 + (j * 3 + a) - 39) / 3 = j by omega, show (39 + (j * 3 + a) - 39) % 3 = a by omega]
 unfold relayV
 by_cases e : i = j
 ·
  subst e; rw [first_self]; exact dir_own hs hi hbi a ha
 ·
  rw [hear1 hs hrd hi hj e hb]
  show rz (rds x j) a = _
  unfold rz rds
  exact congrArg _ (getD3 _ _ _ a ha (fun k => x.rd (j * 3 + k)) rfl rfl rfl)
theorem dvs_at (f : Nat → Value) (k : Nat) (hk : k < 12) : (dvs f).getD k 0 = dirZ f k := by
 unfold dvs dirZ
 rw [List.getD_eq_getElem?_getD, List.getElem?_map, List.getElem?_range hk]; rfl
theorem iv_wf {f : Nat → Value} (ho : ∀ j, j < 73 → okT (nodeT j) (f j)) (hw : WfF f) (i : Nat) (hi : i < 73) : Wf (iv (f i)) := by
 cases e : nodeT i with
 | true => exact hw i _ hi (cell_int ho i hi e)
 | false =>
  have h := ho i hi; rw [e] at h; obtain ⟨b, hb⟩ := h; rw [hb]; exact wf_zero
theorem F2_good {i : Nat} (hi : i < 4) (hb : (i : Int) ≠ x.bad) : F2 c x i = G2 c x i := newK_good hi hb
theorem hear2 (hs : Sane c) (hg : Good x.bad c.fr (F2 c x)) {i j : Nat} (hi : i < 4) (hj : j < 4) (hij : i ≠ j) (hb : (j : Int) ≠ x.bad) : Ms.firstOf (i : Int) c.fr 2 12 (j : Int) (X2 c x i) = some ⟨2, (j : Int), c.fr, dvs (G2 c x j)⟩ :=
 heard_good (mz := fun i => dvs (G2 c x i)) hi hj hij hb (by omega) hs.fr (by unfold dvs; simp) (by omega) (fun z hz => by
  unfold dvs at hz
  obtain ⟨k, hk, rfl⟩ := List.mem_map.1 hz; have hk := List.mem_range.1 hk; obtain ⟨_, _, h3, h4⟩ := hg j hj hb; rw [← F2_good (c := c) hj hb]
  exact iv_wf h3 h4 _ (by omega))
noncomputable def AG (c : CluS) (x : InS) (j : Nat) : Int := if ((j / 3 : Nat) : Int) = x.bad then sum3 (j / 3) (fun g => dirZ (G2 c x g) j) else x.rd j
theorem agreed_all (hs : Sane c) (hrd : ∀ i, i < 12 → Wf (x.rd i)) (hg : Good x.bad c.fr (F2 c x)) {i : Nat} (hi : i < 4) (hb : (i : Int) ≠ x.bad) (j : Nat) (hj : j < 12) : A3 c x i j = AG c x j := by
 have hd : ∀ p : Nat, p < 4 → (p : Int) ≠ x.bad → ∀ s : Nat, s < 4 → (s : Int) ≠ x.bad → s = j / 3 → dirZ (G2 c x p) j = x.rd j := fun p hp hpb s hs' hsb e => by
  have h1 := dir_good hs hrd hp hs' hpb hsb (j % 3) (by omega)
  rw [show s * 3 + j % 3 = j by omega] at h1
  unfold dirZ
  rw [h1]; rfl
 unfold A3 agreedZ AG
 rw [F2_good hi hb]
 by_cases h : ((j / 3 : Nat) : Int) = x.bad
 ·
  rw [if_pos h]; refine taken_bad (D := fun g => dirZ (G2 c x g) j) hi (by omega) (fun e => hb (by rw [← e]; exact h)) fun p hp hpi hpb => ?_; rw [hear2 hs hg hi hp (fun e => hpi e.symm) (by omega)]; exact dvs_at _ _ hj
 ·
  rw [if_neg h]; refine taken_good hi (by omega) hb h (hd i hi hb (j / 3) (by omega) h rfl) fun p hp hpi hpb => ?_; rw [hear2 hs hg hi hp (fun e => hpi e.symm) hpb]
  show (dvs (G2 c x p)).getD j 0 = _
  rw [dvs_at _ _ hj]; exact hd p hp hpb (j / 3) (by omega) h rfl
theorem relay_keeps (f : Nat → Value) (rv : Nat → Option (List Int)) (j : Nat) (h : j < 39 ∨ 51 ≤ j) : relayK f rv 4 j = f j := if_neg (by omega)
theorem sense_keeps (f : Nat → Value) (fr : Int) (k : Nat) (hk : k < 4) (r0 r1 r2 : Int) (j : Nat) (h1 : j ≠ 1) (h : j < 39 ∨ 55 ≤ j) : senseF f fr k r0 r1 r2 j = f j := by
 unfold senseF
 rw [over_out (by omega), over_out (by omega), over_out (by omega), if_neg h1]
theorem F2_keeps {i : Nat} (hi : i < 4) (hb : (i : Int) ≠ x.bad) (j : Nat) (h1 : j ≠ 1) (h : j < 39 ∨ 55 ≤ j) : F2 c x i j = c.F i j := by
 rw [F2_good hi hb]
 unfold G2
 rw [relay_keeps _ _ _ (by omega)]
 unfold F1
 rw [newK_good hi hb]; exact sense_keeps _ _ _ hi _ _ _ _ h1 h
theorem stOf_congr {f g : Nat → Value} (h : ∀ j, 6 ≤ j → j < 27 → f j = g j) (a : Nat) (ha : a < 3) : stOf f a = stOf g a := by
 unfold stOf
 rw [h _ (by omega) (by omega), h _ (by omega) (by omega), h _ (by omega) (by omega), h _ (by omega) (by omega), h _ (by omega) (by omega), h (6 + (a * 7 + 5)) (by omega) (by omega), h (6 + (a * 7 + 6)) (by omega) (by omega)]
theorem used_congr {f g : Nat → Value} {z y : Nat → Int} (h : ∀ j, 27 ≤ j → j < 31 → f j = g j) (hz : ∀ j, j < 12 → z j = y j) (a : Nat) (ha : a < 3) : usedZ f z a = usedZ g y a := by
 unfold usedZ
 rw [fuse_congrI (J := inB g) (y := fun s => y (s * 3 + a)) (fun j hj => by unfold inB; rw [h _ (by omega) (by omega)]) (fun j hj => hz _ (by omega))]
theorem newSt_congr {f g : Nat → Value} {z y : Nat → Int} (h : ∀ j, 2 ≤ j → j < 39 → f j = g j) (hz : ∀ j, j < 12 → z j = y j) (a : Nat) (ha : a < 3) : newSt f z a = newSt g y a := by
 unfold newSt
 rw [stOf_congr (fun j h1 h2 => h j (by omega) (by omega)) a ha, used_congr (fun j h1 h2 => h j (by omega) (by omega)) hz a ha, h 2 (by omega) (by omega), h 3 (by omega) (by omega), h 4 (by omega) (by omega), h 5 (by omega) (by omega)]
theorem decG_congr {f g : Nat → Value} {z y : Nat → Int} (h : ∀ j, 2 ≤ j → j < 39 → f j = g j) (hz : ∀ j, j < 12 → z j = y j) (j : Nat) (h1 : (2 ≤ j ∧ j < 39) ∨ (55 ≤ j ∧ j < 70)) : decG f z allP 3 3 j = decG g y allP 3 3 j := by
 unfold decG
 by_cases a1 : 6 ≤ j ∧ j < 6 + 3 * 7
 · rw [if_pos a1, if_pos a1, newSt_congr h hz _ (by omega)]
 ·
  rw [if_neg a1, if_neg a1]
  by_cases a2 : 55 ≤ j ∧ j < 67 ∧ allP (j - 55) = true
  · rw [if_pos a2, if_pos a2, hz _ (by omega)]
  ·
   rw [if_neg a2, if_neg a2]
   by_cases a3 : 67 ≤ j ∧ j < 67 + 3
   · rw [if_pos a3, if_pos a3, used_congr (fun j h1 h2 => h j (by omega) (by omega)) hz _ (by omega)]
   ·
    rw [if_neg a3, if_neg a3]; have : ¬ (55 ≤ j ∧ j < 67) := fun h => a2 ⟨h.1, h.2, rfl⟩; exact h j (by omega) (by omega)
theorem pack_congr {f g : Nat → Value} (h : ∀ j, 6 ≤ j → j < 39 → f j = g j) : packZ f = packZ g := by
 have ha : ∀ a, a < 3 → axZ f a = axZ g a := fun a ha => by
  unfold axZ
  rw [h _ (by omega) (by omega), h _ (by omega) (by omega), h _ (by omega) (by omega), h _ (by omega) (by omega), h _ (by omega) (by omega), h (6 + (a * 7 + 5)) (by omega) (by omega), h (6 + (a * 7 + 6)) (by omega) (by omega)]
 have hx : ∀ n, n ≤ 3 → axesZ f n = axesZ g n := fun n => by
  induction n with
  | zero => intro _; rfl
  | succ n ih =>
   intro hn
   show axesZ f n ++ axZ f n = axesZ g n ++ axZ g n
   rw [ih (by omega), ha n (by omega)]
 have hi : ∀ n, n ≤ 4 → inZ f n = inZ g n := fun n => by
  induction n with
  | zero => intro _; rfl
  | succ n ih =>
   intro hn
   unfold inZ
   rw [ih (by omega), h _ (by omega) (by omega)]
 have ho : ∀ o, o = 31 ∨ o = 35 → ∀ n, n ≤ 4 → octZ o f n = octZ o g n := fun o ho n => by
  induction n with
  | zero => intro _; rfl
  | succ n ih =>
   intro hn
   unfold octZ
   rw [ih (by omega), h _ (by omega) (by omega)]
 unfold packZ
 rw [hx 3 (by omega), hi 4 (by omega), ho 31 (.inl rfl) 4 (by omega), ho 35 (.inr rfl) 4 (by omega)]
theorem F3_good {i : Nat} (hi : i < 4) (hb : (i : Int) ≠ x.bad) : F3 c x i = G3 c x i := newK_good hi hb
theorem F2_same (ha : Alike c x.bad) {p q : Nat} (hp : p < 4) (hq : q < 4) (hpb : (p : Int) ≠ x.bad) (hqb : (q : Int) ≠ x.bad) : ∀ j, 2 ≤ j → j < 39 → F2 c x p j = F2 c x q j := fun j h1 h2 => by
 rw [F2_keeps hp hpb j (by omega) (by omega), F2_keeps hq hqb j (by omega) (by omega)]; exact ha.same p q hp hq hpb hqb j h1 h2
theorem digest_same (hs : Sane c) (hrd : ∀ i, i < 12 → Wf (x.rd i)) (hg : Good x.bad c.fr (F2 c x)) (ha : Alike c x.bad) {p q : Nat} (hp : p < 4) (hq : q < 4) (hpb : (p : Int) ≠ x.bad) (hqb : (q : Int) ≠ x.bad) :
  (∀ j, (2 ≤ j ∧ j < 39) ∨ (55 ≤ j ∧ j < 70) → decG (F2 c x p) (A3 c x p) allP 3 3 j = decG (F2 c x q) (A3 c x q) allP 3 3 j) ∧ D3 c x p = D3 c x q := by
 have h1 := fun j => decG_congr (F2_same ha hp hq hpb hqb) (fun j hj => (agreed_all hs hrd hg hp hpb j hj).trans (agreed_all hs hrd hg hq hqb j hj).symm) j; refine ⟨h1, ?_⟩
 unfold D3 digestZ
 rw [pack_congr fun j a b => h1 j (by omega)]
end
end Cf
namespace Cf
open Go.RowKit Mem Rws Nd Cl
section
variable {c : CluS} {x : InS}
theorem F4_good {i : Nat} (hi : i < 4) (hb : (i : Int) ≠ x.bad) : F4 c x i = G4 c x i := newK_good hi hb
theorem F5_good {i : Nat} (hi : i < 4) (hb : (i : Int) ≠ x.bad) : F5 c x i = G5 c x i := newK_good hi hb
theorem hear3 (hs : Sane c) {i j : Nat} (hi : i < 4) (hj : j < 4) (hij : i ≠ j) (hb : (j : Int) ≠ x.bad) : Ms.firstOf (i : Int) c.fr 3 1 (j : Int) (X3 c x i) = some ⟨3, (j : Int), c.fr, [D3 c x j]⟩ :=
 heard_good (mz := fun i => [D3 c x i]) hi hj hij hb (by omega) hs.fr rfl (by omega) (fun z hz => by
  have hz2 : z = D3 c x j := by simpa using hz
  rw [hz2]; exact digest_wf _)
theorem vote_good (hs : Sane c) {i s : Nat} (hi : i < 4) (hs4 : s < 4) (hb : (i : Int) ≠ x.bad) (hsb : (s : Int) ≠ x.bad) : heardZ (G4 c x i) s = D3 c x s := by
 unfold heardZ G4 passK
 rw [if_pos (by omega), show 51 + s - 51 = s by omega]
 unfold passV
 by_cases e : i = s
 ·
  subst e; rw [first_self]
  show iv (F3 c x i (51 + i)) = _
  rw [F3_good hi hb]
  unfold G3 decF
  rw [if_pos (.inr rfl)]; rfl
 ·
  rw [hear3 hs hi hs4 e hsb]; rfl
theorem hvs_get (f : Nat → Value) (s : Nat) (h : s < 4) : (hvs f).getD s 0 = heardZ f s := by
 obtain rfl | rfl | rfl | rfl : s = 0 ∨ s = 1 ∨ s = 2 ∨ s = 3 := by omega
 all_goals rfl
theorem hear4 (hs : Sane c) (hg : Good x.bad c.fr (F4 c x)) {i j : Nat} (hi : i < 4) (hj : j < 4) (hij : i ≠ j) (hb : (j : Int) ≠ x.bad) : Ms.firstOf (i : Int) c.fr 2 4 (j : Int) (X4 c x i) = some ⟨2, (j : Int), c.fr, hvs (G4 c x j)⟩ :=
 heard_good (mz := fun i => hvs (G4 c x i)) hi hj hij hb (by omega) hs.fr rfl (by omega) (fun z hz => by
  obtain ⟨_, _, h3, h4⟩ := hg j hj hb; rw [F4_good hj hb] at h3 h4
  unfold hvs at hz
  simp only [List.mem_cons, List.mem_nil_iff, or_false] at hz
  rcases hz with rfl | rfl | rfl | rfl
  · exact iv_wf h3 h4 _ (by omega)
  · exact iv_wf h3 h4 _ (by omega)
  · exact iv_wf h3 h4 _ (by omega)
  · exact iv_wf h3 h4 _ (by omega))
noncomputable def LG (c : CluS) (x : InS) (s : Nat) : Int := if (s : Int) = x.bad then sum3 s (fun g => heardZ (G4 c x g) s) else D3 c x s
theorem votes_all (hs : Sane c) (hg : Good x.bad c.fr (F4 c x)) {i : Nat} (hi : i < 4) (hb : (i : Int) ≠ x.bad) (s : Nat) (hs4 : s < 4) : L5 c x i s = LG c x s := by
 unfold L5 digestsZ LG
 rw [F4_good hi hb]
 by_cases h : (s : Int) = x.bad
 ·
  rw [if_pos h]; refine taken_bad (D := fun g => heardZ (G4 c x g) s) hi hs4 (fun e => hb (by rw [← e]; exact h)) fun p hp hpi hpb => ?_; rw [hear4 hs hg hi hp (fun e => hpi e.symm) (by omega)]; exact hvs_get _ _ hs4
 ·
  rw [if_neg h]; refine taken_good hi hs4 hb h (vote_good hs hi hs4 hb h) fun p hp hpi hpb => ?_; rw [hear4 hs hg hi hp (fun e => hpi e.symm) hpb]
  show (hvs (G4 c x p)).getD s 0 = _
  rw [hvs_get _ _ hs4]; exact vote_good hs hp hs4 hpb h
end
theorem cnt_tot (L : Nat → Int) (I : Nat → Bool) (v w : Int) (h : v ≠ w) : ∀ k, Vt.cnt L I v k + Vt.cnt L I w k ≤ Vt.tot I k
 | 0 => Nat.le_refl _
 | k + 1 => by
  have ih := cnt_tot L I v w h k
  unfold Vt.cnt Vt.tot
  by_cases hI : I k = true
  ·
   by_cases h1 : L k = v
   · rw [if_pos ⟨hI, h1⟩, if_neg (fun e => h (h1.symm.trans e.2)), if_pos hI]; omega
   ·
    by_cases h2 : L k = w
    · rw [if_neg (fun e => h1 e.2), if_pos ⟨hI, h2⟩, if_pos hI]; omega
    · rw [if_neg (fun e => h1 e.2), if_neg (fun e => h2 e.2), if_pos hI]; omega
  · rw [if_neg (fun e => hI e.1), if_neg (fun e => hI e.1), if_neg hI]; omega
theorem cnt_three {L : Nat → Int} {I : Nat → Bool} {bad d : Int} (h : ∀ s : Nat, s < 4 → (s : Int) ≠ bad → I s = true ∧ L s = d) : 3 ≤ Vt.cnt L I d 4 := by
 have h1 : ∀ s : Nat, s < 4 → (s : Int) ≠ bad → (I s = true ∧ L s = d) := h
 unfold Vt.cnt Vt.cnt Vt.cnt Vt.cnt Vt.cnt
 have k0 : ((0 : Nat) : Int) = bad ∨ (I 0 = true ∧ L 0 = d) := by by_cases e : ((0 : Nat) : Int) = bad; exact .inl e; exact .inr (h1 0 (by omega) e)
 have k1 : ((1 : Nat) : Int) = bad ∨ (I 1 = true ∧ L 1 = d) := by by_cases e : ((1 : Nat) : Int) = bad; exact .inl e; exact .inr (h1 1 (by omega) e)
 have k2 : ((2 : Nat) : Int) = bad ∨ (I 2 = true ∧ L 2 = d) := by by_cases e : ((2 : Nat) : Int) = bad; exact .inl e; exact .inr (h1 2 (by omega) e)
 have k3 : ((3 : Nat) : Int) = bad ∨ (I 3 = true ∧ L 3 = d) := by by_cases e : ((3 : Nat) : Int) = bad; exact .inl e; exact .inr (h1 3 (by omega) e)
 rcases k0 with k0 | k0 <;> rcases k1 with k1 | k1 <;> rcases k2 with k2 | k2 <;> rcases k3 with k3 | k3 <;> first
  | omega
  | (simp only [k0, k1, k2, k3, and_self, if_true]; (repeat' split) <;> omega)
theorem vote_is {L : Nat → Int} {I : Nat → Bool} {bad d : Int} (h : ∀ s : Nat, s < 4 → (s : Int) ≠ bad → I s = true ∧ L s = d) : Vt.val L I = d ∧ Vt.strong L I = true ∧ 0 < Vt.tot I 4 := by
 have h3 := cnt_three h; have ht := Vt.tot_le I 4; have hc := fun w (hw : d ≠ w) => cnt_tot L I d w hw 4
 have hct : Vt.cnt L I d 4 ≤ Vt.tot I 4 := by
  have := cnt_tot L I d (d + 1) (by omega) 4; omega
 obtain ⟨_, h1⟩ := Vt.vt_rv L I 4 (by omega); have hv := h1 (by omega)
 have hval : Vt.val L I = d := by
  have hmax : ∀ k, k ≤ 4 → ∀ s, s < k → I s = true → Vt.cnt L I (L s) 4 ≤ (Vt.vt L I k).1 := fun k => by
   induction k with
   | zero => intro _ s hs; omega
   | succ k ih =>
    intro hk s hs hI
    unfold Vt.vt
    by_cases e : s = k
    ·
     subst e
     by_cases c : I s = true ∧ (Vt.vt L I s).1 < Vt.cnt L I (L s) 4
     · rw [if_pos c]; exact Nat.le_refl _
     ·
      rw [if_neg c]; have : ¬ (Vt.vt L I s).1 < Vt.cnt L I (L s) 4 := fun x => c ⟨hI, x⟩; omega
    ·
     have := ih (by omega) s (by omega) hI
     by_cases c : I k = true ∧ (Vt.vt L I k).1 < Vt.cnt L I (L k) 4
     · rw [if_pos c]; show _ ≤ Vt.cnt L I (L k) 4; omega
     · rw [if_neg c]; exact this
  have hx : ∃ s : Nat, s < 4 ∧ (s : Int) ≠ bad := by
   by_cases e : ((0 : Nat) : Int) = bad
   · exact ⟨1, by omega, by omega⟩
   · exact ⟨0, by omega, e⟩
  obtain ⟨s, hs4, hsb⟩ := hx; have hm := hmax 4 (by omega) s hs4 (h s hs4 hsb).1; rw [(h s hs4 hsb).2, hv] at hm
  unfold Vt.val
  by_cases e : d = Vt.rv L I 4
  · exact e.symm
  ·
   have := hc _ e; have hm2 : Vt.cnt L I d 4 ≤ Vt.cnt L I (Vt.rv L I 4) 4 := hm; omega
 refine ⟨hval, ?_, by omega⟩
 unfold Vt.strong
 rw [hv]
 unfold Vt.val at hval
 rw [hval]
 exact decide_eq_true (by show Vt.tot I 4 < 2 * Vt.cnt L I d 4; omega)
def RSame (r s : RS) : Prop := ∀ i, i < 4 → r.f i = s.f i ∧ r.m i = s.m i ∧ r.j i = s.j i
theorem okTo_congr {r s : RS} (h : RSame r s) : ∀ n, n ≤ 4 → okTo r.f r.m r.j n = okTo s.f s.m s.j n
 | 0, _ => rfl
 | n + 1, hn => by
  unfold okTo
  obtain ⟨h1, h2, h3⟩ := h n (by omega); rw [okTo_congr h n (by omega), okAt_congr h1 h2 h3]
end Cf
end Go.Proofs.Ytobigbnmbnhikaa
