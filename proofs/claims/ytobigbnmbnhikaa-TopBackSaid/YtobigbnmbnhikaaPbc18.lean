import Derived.Test.YtobigbnmbnhikaaPb0
import Derived.Test.YtobigbnmbnhikaaPbc17
import Derived.Test.YtobigbnmbnhikaaPb7
set_option linter.unusedVariables false
set_option linter.unusedSimpArgs false
namespace Go.Proofs.Ytobigbnmbnhikaa
namespace Cf
open Go.RowKit Mem Rws Nd Cl
section
variable {c : CluS} {x : InS}
theorem F4_low {p : Nat} (hp : p < 4) (hb : (p : Int) ≠ x.bad) (j : Nat) (h : j < 51 ∨ 55 ≤ j) (h70 : j ≠ 70) : F4 c x p j = decG (F2 c x p) (A3 c x p) allP 3 3 j := by
 rw [F4_good hp hb]
 unfold G4 passK
 rw [if_neg (by omega), F3_good hp hb]
 unfold G3 decF
 rw [if_neg (by omega)]
theorem F4_dig {p : Nat} (hp : p < 4) (hb : (p : Int) ≠ x.bad) : F4 c x p 70 = .int .i64 (D3 c x p) := by
 rw [F4_good hp hb]
 unfold G4 passK
 rw [if_neg (by omega), F3_good hp hb]
 unfold G3 decF
 rw [if_pos (.inl rfl)]; rfl
theorem F4_roll {p : Nat} (hp : p < 4) (hb : (p : Int) ≠ x.bad) (j : Nat) (h1 : 27 ≤ j) (h2 : j < 39) : F4 c x p j = c.F p j := by
 rw [F4_low hp hb j (by omega) (by omega), decG_low _ _ _ _ _ _ (by omega) (by omega) (by omega)]; exact F2_keeps hp hb j (by omega) (by omega)
theorem roll4 {p : Nat} (hp : p < 4) (hb : (p : Int) ≠ x.bad) : RSame (rollOf (F4 c x p)) (rollOf (c.F p)) := fun i hi => by
 unfold rollOf inB
 dsimp only; rw [F4_roll hp hb _ (by omega) (by omega), F4_roll hp hb (31 + i) (by omega) (by omega), F4_roll hp hb (35 + i) (by omega) (by omega)]; exact ⟨rfl, rfl, rfl⟩
noncomputable def VG (c : CluS) (x : InS) (d : Int) : List Bool := (List.range 4).map fun s => decide (LG c x s = d)
structure Facts (c : CluS) (x : InS) (p : Nat) : Prop where
 val : Vt.val (L5 c x p) (inB (F4 c x p)) = D3 c x p
 strong : Vt.strong (L5 c x p) (inB (F4 c x p)) = true
 agree : V5 c x p = VG c x (D3 c x p)
 good : okTo (rollOf (F4 c x p)).f (rollOf (F4 c x p)).m (rollOf (F4 c x p)).j 4 = true
theorem facts (hs : Sane c) (hrd : ∀ i, i < 12 → Wf (x.rd i)) (ha : Alike c x.bad) {p : Nat} (hp : p < 4) (hb : (p : Int) ≠ x.bad) : Facts c x p := by
 have hg1 := good1 hs hrd; have hg2 := good2 hg1; have hg4 := good4 (good3 hg2); have hL : ∀ s, s < 4 → L5 c x p s = LG c x s := votes_all hs hg4 hp hb
 have hk : ∀ s : Nat, s < 4 → (s : Int) ≠ x.bad → inB (F4 c x p) s = true ∧ L5 c x p s = D3 c x p := fun s hs4 hsb => by
  refine ⟨?_, ?_⟩
  ·
   have := (roll4 (c := c) (x := x) hp hb s hs4).1; exact this.trans (ha.inn p s hp hs4 hb hsb).1
  ·
   rw [hL s hs4]
   unfold LG
   rw [if_neg hsb]; exact (digest_same hs hrd hg2 ha hs4 hp hsb hb).2
 obtain ⟨h1, h2, h3⟩ := vote_is hk; refine ⟨h1, h2, ?_, ?_⟩
 ·
  unfold V5 agreeL VG
  refine List.map_congr_left fun s hs' => ?_; have hs4 := List.mem_range.1 hs'
  unfold Vt.agrees
  rw [h1, hL s hs4, decide_eq_true h3, Bool.true_and]
 ·
  rw [okTo_congr (roll4 hp hb) 4 (by omega)]; exact ha.roll p hp hb
noncomputable def RG (c : CluS) (x : InS) (p : Nat) : RS := (many (rollOf (F4 c x p)) (fun i => (VG c x (D3 c x p)).getD i false) 4).1
theorem judge_is {p : Nat} (hf : Facts c x p) : G5 c x p = rollW (voteF (F4 c x p) (D3 c x p) true) (RG c x p) := by
 have hV : agreeL (L5 c x p) (inB (F4 c x p)) = VG c x (D3 c x p) := hf.agree
 have hlen : (VG c x (D3 c x p)).length = 4 := by unfold VG; simp
 have hJ : judgeR (L5 c x p) (F4 c x p) = (RG c x p, (many (rollOf (F4 c x p)) (fun i => (VG c x (D3 c x p)).getD i false) 4).2, 0) := by
  unfold judgeR
  rw [hf.strong, hV]
  unfold stepR
  rw [if_neg (by omega), if_neg (by rw [hf.good]; simp), if_neg (by simp)]; rfl
 unfold G5 judgeF
 rw [hJ, if_pos rfl, hf.val, hf.strong]
theorem close_is {p : Nat} (hp : p < 4) (hb : (p : Int) ≠ x.bad) (hf : Facts c x p) : G6 c x p = G5 c x p := by
 unfold G6 closeF
 rw [F5_good hp hb]
 have h70 : G5 c x p 70 = .int .i64 (D3 c x p) := by
  rw [judge_is hf]
  unfold rollW voteF
  rw [if_neg (by omega), if_neg (by omega), if_neg (by omega)]; exact F4_dig hp hb
 have h71 : G5 c x p 71 = .int .i64 (D3 c x p) := by
  rw [judge_is hf]
  unfold rollW voteF
  rw [if_neg (by omega), if_pos rfl]
 have hl : lostB (G5 c x p) = false := by
  unfold lostB
  rw [h70, h71]
  simp
 rw [hl, if_neg (by simp)]
theorem F6_is {p : Nat} (hp : p < 4) (hb : (p : Int) ≠ x.bad) (hf : Facts c x p) : F6 c x p = rollW (voteF (F4 c x p) (D3 c x p) true) (RG c x p) := by
 unfold F6
 rw [newK_good hp hb, close_is hp hb hf, judge_is hf]
theorem F6_low {p : Nat} (hp : p < 4) (hb : (p : Int) ≠ x.bad) (hf : Facts c x p) (j : Nat) (h : j < 27 ∨ (39 ≤ j ∧ j < 51) ∨ (55 ≤ j ∧ j < 70)) : F6 c x p j = decG (F2 c x p) (A3 c x p) allP 3 3 j := by
 rw [F6_is hp hb hf]
 unfold rollW voteF
 rw [if_neg (by omega), if_neg (by omega), if_neg (by omega)]; exact F4_low hp hb j (by omega) (by omega)
theorem F6_high {p : Nat} (hp : p < 4) (hb : (p : Int) ≠ x.bad) (hf : Facts c x p) : F6 c x p 70 = .int .i64 (D3 c x p) ∧ F6 c x p 71 = .int .i64 (D3 c x p) ∧ F6 c x p 72 = .bool true := by
 rw [F6_is hp hb hf]; refine ⟨?_, ?_, ?_⟩
 ·
  unfold rollW voteF
  rw [if_neg (by omega), if_neg (by omega), if_neg (by omega)]; exact F4_dig hp hb
 ·
  unfold rollW voteF
  rw [if_neg (by omega), if_pos rfl]
 ·
  unfold rollW voteF
  rw [if_neg (by omega), if_neg (by omega), if_pos rfl]
end
end Cf
namespace Cf
open Go.RowKit Mem Rws Nd Cl
def outN (lo hi : Int) (l : List Int) : Nat := l.countP fun v => decide (v < lo ∨ hi < v)
theorem outN_cons (lo hi v : Int) (l : List Int) : outN lo hi (v :: l) = outN lo hi l + if v < lo ∨ hi < v then 1 else 0 := by
 unfold outN
 rw [List.countP_cons]; simp only [decide_eq_true_eq]
theorem mid_within {l : List Int} {lo hi : Int} (h : (l.length = 3 ∧ outN lo hi l = 0) ∨ (l.length = 4 ∧ outN lo hi l ≤ 1)) : lo ≤ (Md.midZ l).1 ∧ (Md.midZ l).1 ≤ hi := by
 have hp : outN lo hi (Md.srt l) = outN lo hi l := (Md.srt_perm l).countP_eq _; have hs := Md.srt_sorted l; have hl := Md.srt_len l
 unfold Md.midZ
 rw [if_neg (by omega)]
 show lo ≤ Md.midOf l ∧ Md.midOf l ≤ hi
 unfold Md.midOf
 rw [← hp] at h
 rcases h with ⟨h1, h2⟩ | ⟨h1, h2⟩
 ·
  rw [h1]; rw [h1] at hl
  generalize Md.srt l = S at *
  match S, hl with
  | [a, b, d], _ =>
   simp only [outN_cons, List.pairwise_cons] at h2 hs; have e1 : ([a, b, d] : List Int).getD ((3 - 1) / 3) 0 = a := rfl; have e2 : ([a, b, d] : List Int).getD (3 - 1 - (3 - 1) / 3) 0 = d := rfl; rw [e1, e2]; have := hs.1 b (by simp); have := hs.1 d (by simp)
   (repeat' split at h2) <;> omega
 ·
  rw [h1]; rw [h1] at hl
  generalize Md.srt l = S at *
  match S, hl with
  | [a, b, d, e], _ =>
   simp only [outN_cons, List.pairwise_cons] at h2 hs; have e1 : ([a, b, d, e] : List Int).getD ((4 - 1) / 3) 0 = b := rfl; have e2 : ([a, b, d, e] : List Int).getD (4 - 1 - (4 - 1) / 3) 0 = d := rfl; rw [e1, e2]; have := hs.1 b (by simp); have := hs.2.1 d (by simp); have := hs.2.2.1 e (by simp)
   (repeat' split at h2) <;> omega
theorem fuse_within {I : Nat → Bool} {z : Nat → Int} {bad lo hi : Int} (h : ∀ s : Nat, s < 4 → (s : Int) ≠ bad → I s = true ∧ lo ≤ z s ∧ z s ≤ hi) : lo ≤ (Md.midZ (fuseL I z 4)).1 ∧ (Md.midZ (fuseL I z 4)).1 ≤ hi := by
 refine mid_within ?_
 obtain ⟨n, hn⟩ : ∃ n : Nat → Nat, ∀ s, n s = if I s then 1 else 0 := ⟨_, fun _ => rfl⟩
 obtain ⟨o, ho⟩ : ∃ o : Nat → Nat, ∀ s, o s = if I s then (if z s < lo ∨ hi < z s then 1 else 0) else 0 := ⟨_, fun _ => rfl⟩
 have hlen : ∀ k, (fuseL I z (k + 1)).length = (fuseL I z k).length + n k := fun k => by
  rw [hn]
  have h1 : fuseL I z (k + 1) = if I k then fuseL I z k ++ [z k] else fuseL I z k := rfl
  rw [h1]
  cases hI : I k with
  | true => rw [if_pos rfl, if_pos rfl, List.length_append]; rfl
  | false => rw [if_neg (by simp), if_neg (by simp)]; rfl
 have hout : ∀ k, outN lo hi (fuseL I z (k + 1)) = outN lo hi (fuseL I z k) + o k := fun k => by
  rw [ho]
  have h1 : fuseL I z (k + 1) = if I k then fuseL I z k ++ [z k] else fuseL I z k := rfl
  rw [h1]
  cases hI : I k with
  | true =>
   rw [if_pos rfl, if_pos rfl]
   unfold outN
   rw [List.countP_append, List.countP_cons, List.countP_nil]; simp only [decide_eq_true_eq, Nat.zero_add]
  | false => rw [if_neg (by simp), if_neg (by simp)]; rfl
 have hb : ∀ s, o s ≤ n s ∧ n s ≤ 1 := fun s => by
  rw [hn, ho]
  (repeat' split) <;> omega
 have hk : ∀ s : Nat, s < 4 → (s : Int) = bad ∨ (n s = 1 ∧ o s = 0) := fun s hs => by
  by_cases e : (s : Int) = bad
  · exact .inl e
  ·
   obtain ⟨h1, h2, h3⟩ := h s hs e; refine .inr ?_; rw [hn, ho, if_pos h1, if_pos h1, if_neg (by omega)]; exact ⟨rfl, rfl⟩
 have l0 : (fuseL I z 0).length = 0 := rfl; have q0 : outN lo hi (fuseL I z 0) = 0 := rfl; have l1 := hlen 0; have l2 := hlen 1; have l3 := hlen 2; have l4 := hlen 3; have q1 := hout 0; have q2 := hout 1; have q3 := hout 2; have q4 := hout 3; have b0 := hb 0; have b1 := hb 1; have b2 := hb 2; have b3 := hb 3; have k0 := hk 0 (by omega); have k1 := hk 1 (by omega); have k2 := hk 2 (by omega); have k3 := hk 3 (by omega); simp only [Nat.zero_add, Nat.reduceAdd] at l1 l2 l3 l4 q1 q2 q3 q4; omega
section
variable {c : CluS} {x : InS}
theorem used_within (hs : Sane c) (hrd : ∀ i, i < 12 → Wf (x.rd i)) (ha : Alike c x.bad) {p : Nat} (hp : p < 4) (hpb : (p : Int) ≠ x.bad) {a : Nat} (ha3 : a < 3) {lo hi : Int} (h : ∀ s : Nat, s < 4 → (s : Int) ≠ x.bad → lo ≤ x.rd (s * 3 + a) ∧ x.rd (s * 3 + a) ≤ hi) :
  lo ≤ usedZ (F2 c x p) (A3 c x p) a ∧ usedZ (F2 c x p) (A3 c x p) a ≤ hi := by
 have hg := good2 (good1 hs hrd)
 unfold usedZ
 refine fuse_within (bad := x.bad) fun s hs4 hsb => ⟨?_, ?_⟩
 ·
  have h1 := (ha.inn p s hp hs4 hpb hsb).1
  unfold inB at h1 ⊢
  rw [F2_keeps hp hpb _ (by omega) (by omega)]; exact h1
 ·
  rw [agreed_all hs hrd hg hp hpb _ (by omega)]
  unfold AG
  rw [show (s * 3 + a) / 3 = s by omega, if_neg hsb]
  exact h s hs4 hsb
end
end Cf
namespace Cl
open Go.RowKit Mem Rws Nd
def RunC.setNode (s : RunC) (i : Nat) (F : Nat → Value) (A : Option Addr) (V : List Bool) (c : Nat) : RunC := { s with F := setAt s.F i F, VA := setAt s.VA i A, VL := setAt s.VL i V, VC := setAt s.VC i c }
theorem RunC.setNode_ver (s : RunC) (i : Nat) (F : Nat → Value) (A : Option Addr) (V : List Bool) (c : Nat) : (s.setNode i F A V c).verV i = .slice A V.length c := by
 unfold RunC.verV RunC.setNode
 dsimp only; rw [setAt_self, setAt_self, setAt_self]
theorem RunC.setNode_ne (s : RunC) {i k : Nat} (F : Nat → Value) (A : Option Addr) (V : List Bool) (c : Nat) (h : k ≠ i) : (s.setNode i F A V c).verV k = s.verV k := by
 unfold RunC.verV RunC.setNode
 dsimp only; rw [setAt_ne _ _ h, setAt_ne _ _ h, setAt_ne _ _ h]
theorem RunC.setNode_cell (s : RunC) (i : Nat) (hi : i < 4) (F : Nat → Value) (A : Option Addr) (V : List Bool) (c : Nat) (j : Nat) : (s.setNode i F A V c).cell j = over (1 + 74 * i) 74 (nodeW F (.slice A V.length c)) s.cell j := by
 by_cases h0 : j = 0
 ·
  rw [over_out (by omega)]; subst h0; rfl
 by_cases h1 : j < 297
 ·
  by_cases hq : (j - 1) / 74 = i
  ·
   rw [over_in (by omega) (by omega)]
   unfold RunC.cell
   rw [if_neg h0, if_pos h1, hq, s.setNode_ver]
   rw [show (s.setNode i F A V c).F i = F from setAt_self _ _ _, show (j - 1) % 74 = j - (1 + 74 * i) by omega]
  ·
   rw [over_out (by omega)]
   unfold RunC.cell
   rw [if_neg h0, if_pos h1, if_neg h0, if_pos h1, s.setNode_ne F A V c hq]
   rw [show (s.setNode i F A V c).F ((j - 1) / 74) = s.F ((j - 1) / 74) from setAt_ne _ _ hq]
 ·
  rw [over_out (by omega)]
  unfold RunC.cell
  rw [if_neg h0, if_neg h1, if_neg h0, if_neg h1]; rfl
theorem RunC.node_at (s : RunC) {i : Nat} (hi : i < 4) {j : Nat} (hj : j < 74) : s.cell (1 + 74 * i + j) = nodeW (s.F i) (s.verV i) j := by
 unfold RunC.cell
 rw [if_neg (by omega), if_pos (by omega), show (1 + 74 * i + j - 1) / 74 = i by omega, show (1 + 74 * i + j - 1) % 74 = j by omega]
theorem gr_setCellsR (w : World) (g : Nat) : ∀ (vs : List Value) (o : Nat), w.grownBy (w.setCells g o vs) (some g)
 | [], _ => grown_same w _
 | v :: r, o => by
  rw [World.setCells]; have h1 := gr_setCell w g o v; have h2 := gr_setCellsR (w.setCell ⟨g, o, none⟩ v) g r (o + 1); exact ⟨h2.os.trans h1.os, h2.tape.trans h1.tape, h2.output.trans h1.output, Nat.le_trans h1.size h2.size, fun k hk hne => (h2.block k (Nat.lt_of_lt_of_le hk h1.size) hne).trans (h1.block k hk hne)⟩
theorem RunAt.patch {w w' : World} {R b0 : Nat} {s s' : RunC} (h : RunAt w R b0 s) (hg : w.grownBy w' (some R)) (hb : Blk w' R 80 (row 315 s'.cell)) (e1 : s'.bA = s.bA) (e2 : s'.bX = s.bX) (e3 : s'.bC = s.bC)
  (hv : ∀ i, i < 4 → (s'.VA i = none → s'.VC i = 0) ∧ (s'.VL i).length ≤ s'.VC i ∧ (s'.VL i).length ≤ 140737488351232 ∧ Rd w w.heap.size 1 (s'.VA i) (s'.VL i).length (boolsV (s'.VL i)) ∧ (0 < (s'.VL i).length → ∀ a, s'.VA i = some a → a.block < w.heap.size ∧ a.block ≠ R ∧ ∀ j, j < 4 → s.own j ≠ some a.block)) :
  RunAt w' R b0 s' ∧ Keep w w' R s s' := by
 have hown : ∀ i, s'.own i = s.own i := fun i => by unfold RunC.own RunC.boxV; rw [e1, e2, e3]
 have hblk : ∀ b, b < w.heap.size → b ≠ R → w'.heap[b]? = w.heap[b]? := fun b hb hR => hg.block b hb fun e => by injection e with e; exact hR e
 have hrun : ∀ g, some R = some g → ∃ cur t, w.heap[g]? = some (.cells cur t (0, 0)) ∧ t ≠ 3 := fun g e => by injection e with e; subst e; exact ⟨_, _, h.blk, by decide⟩
 refine ⟨⟨hb, h.low, fun i hi => ?_, fun i hi => ?_, fun i j hi hj hij => ?_⟩, ⟨hg.os, hg.tape, hg.output, hg.size, fun i _ => .inl (hown i), fun b hb hR _ => hblk b hb hR⟩⟩
 ·
  obtain ⟨h1, h2, h3, h4, h5⟩ := hv i hi; refine ⟨h1, h2, h3, rd_kept h4 hg.size (fun hn0 a e => hblk _ (h5 hn0 a e).1 (h5 hn0 a e).2.1), fun hn0 a e => ⟨Nat.lt_of_lt_of_le (h5 hn0 a e).1 hg.size, (h5 hn0 a e).2.1, fun j hj => by rw [hown]; exact (h5 hn0 a e).2.2 j hj⟩⟩
 ·
  rw [e1, e2, e3]; refine own_msgs_grown (h.box i hi) hg ?_ hrun; have := h.own_ne hi
  unfold RunC.own RunC.boxV at this
  exact .inr this
 · rw [hown, hown]; exact h.apart i j hi hj hij
theorem RunAt.setNode {w : World} {R b0 : Nat} {s : RunC} (h : RunAt w R b0 s) {i : Nat} (hi : i < 4) (F : Nat → Value) (A : Option Addr) (V : List Bool) (c : Nat)
  (hv : (A = none → c = 0) ∧ V.length ≤ c ∧ V.length ≤ 140737488351232 ∧ Rd w w.heap.size 1 A V.length (boolsV V) ∧ (0 < V.length → ∀ a, A = some a → a.block < w.heap.size ∧ a.block ≠ R ∧ ∀ j, j < 4 → s.own j ≠ some a.block)) :
  RunAt (w.setCells R (1 + 74 * i) (row 74 (nodeW F (.slice A V.length c))).toList) R b0 (s.setNode i F A V c) ∧ Keep w (w.setCells R (1 + 74 * i) (row 74 (nodeW F (.slice A V.length c))).toList) R s (s.setNode i F A V c) := by
 refine h.patch (gr_setCellsR _ _ _ _) ?_ rfl rfl rfl fun k hk => ?_
 ·
  have := blk_mid h.blk (1 + 74 * i) 74 (nodeW F (.slice A V.length c))
  rw [show row 315 (over (1 + 74 * i) 74 (nodeW F (.slice A V.length c)) s.cell) = row 315 (s.setNode i F A V c).cell from row_congr fun j hj => (s.setNode_cell i hi F A V c j).symm] at this
  exact this
 ·
  show (setAt s.VA i A k = none → setAt s.VC i c k = 0) ∧ (setAt s.VL i V k).length ≤ setAt s.VC i c k ∧ (setAt s.VL i V k).length ≤ 140737488351232 ∧ Rd w w.heap.size 1 (setAt s.VA i A k) (setAt s.VL i V k).length (boolsV (setAt s.VL i V k)) ∧ (0 < (setAt s.VL i V k).length → ∀ a, setAt s.VA i A k = some a → a.block < w.heap.size ∧ a.block ≠ R ∧ ∀ j, j < 4 → s.own j ≠ some a.block)
  by_cases e : k = i
  ·
   subst e; rw [setAt_self, setAt_self, setAt_self]; exact hv
  ·
   rw [setAt_ne _ _ e, setAt_ne _ _ e, setAt_ne _ _ e]; exact h.ver k hk
def RunC.bare (s : RunC) : RunC := s.boxes (fun _ => none) (fun _ => []) (fun _ => 0)
theorem RunC.bare_cell (s : RunC) (j : Nat) (hj : j < 315) : s.bare.cell j = over 311 4 (fun _ => .slice none 0 0) s.cell j := by
 unfold over
 by_cases h : 311 ≤ j
 ·
  rw [if_pos ⟨h, by omega⟩]
  unfold RunC.cell
  rw [if_neg (by omega), if_neg (by omega), if_neg (by omega), if_neg (by omega), if_neg (by omega)]; rfl
 ·
  rw [if_neg (by omega)]
  unfold RunC.cell
  by_cases h0 : j = 0
  · rw [if_pos h0, if_pos h0]; rfl
  rw [if_neg h0, if_neg h0]
  by_cases h1 : j < 297
  · rw [if_pos h1, if_pos h1]; rfl
  rw [if_neg h1, if_neg h1]
  by_cases h2 : j < 309
  · rw [if_pos h2, if_pos h2]; rfl
  rw [if_neg h2, if_neg h2]
  by_cases h3 : j = 309
  · rw [if_pos h3, if_pos h3]; rfl
  rw [if_neg h3, if_neg h3, if_pos (by omega), if_pos (by omega)]; rfl
theorem RunAt.bare {w : World} {R b0 : Nat} {s : RunC} (h : RunAt w R b0 s) : RunAt (w.setCells R 311 (row 4 fun _ => .slice none 0 0).toList) R b0 s.bare ∧ w.grownBy (w.setCells R 311 (row 4 fun _ => .slice none 0 0).toList) (some R) := by
 have hg := gr_setCellsR w R (row 4 fun _ => .slice none 0 0).toList 311
 have hblk : ∀ b, b < w.heap.size → b ≠ R → (w.setCells R 311 (row 4 fun _ => .slice none 0 0).toList).heap[b]? = w.heap[b]? := fun b hb hR => hg.block b hb fun e => by injection e with e; exact hR e
 refine ⟨⟨?_, h.low, fun i hi => ?_, fun i hi => Ms.OwnMsgs.nil _ _, fun i j hi hj hij => .inl rfl⟩, hg⟩
 ·
  have := blk_mid h.blk 311 4 (fun _ => .slice none 0 0)
  rw [show row 315 (over 311 4 (fun _ => .slice none 0 0) s.cell) = row 315 s.bare.cell from row_congr fun j hj => (s.bare_cell j hj).symm] at this
  exact this
 ·
  obtain ⟨h1, h2, h3, h4, h5⟩ := h.ver i hi; exact ⟨h1, h2, h3, rd_kept h4 hg.size (fun hn0 a e => hblk _ (h5 hn0 a e).1 (h5 hn0 a e).2.1), fun hn0 a e => ⟨Nat.lt_of_lt_of_le (h5 hn0 a e).1 hg.size, (h5 hn0 a e).2.1, fun j hj e2 => by cases e2⟩⟩
theorem RunAt.aside {w w' : World} {R b0 : Nat} {s : RunC} (h : RunAt w R b0 s) {g : Nat} {t : TypeId} {cs : Array Value} (hb : Blk w g t cs) (hg : w.grownBy w' (some g)) (hR : g ≠ R) (hX : ∀ i, i < 4 → s.own i ≠ some g) (ht : t ≠ 3) (hV : ∀ i, i < 4 → 0 < (s.VL i).length → ∀ a, s.VA i = some a → a.block ≠ g) : RunAt w' R b0 s := by
 have hblk : ∀ b, b < w.heap.size → b ≠ g → w'.heap[b]? = w.heap[b]? := fun b hb hR => hg.block b hb fun e => by injection e with e; exact hR e
 have hrun : ∀ x, some g = some x → ∃ cur t', w.heap[x]? = some (.cells cur t' (0, 0)) ∧ t' ≠ 3 := fun x e => by injection e with e; subst e; exact ⟨_, _, hb, ht⟩
 refine ⟨(hblk R h.blk.lt (fun e => hR e.symm)).trans h.blk, h.low, fun i hi => ?_, fun i hi => ?_, h.apart⟩
 ·
  obtain ⟨h1, h2, h3, h4, h5⟩ := h.ver i hi; exact ⟨h1, h2, h3, rd_kept h4 hg.size (fun hn0 a e => hblk _ (h5 hn0 a e).1 (hV i hi hn0 a e)), fun hn0 a e => ⟨Nat.lt_of_lt_of_le (h5 hn0 a e).1 hg.size, (h5 hn0 a e).2⟩⟩
 ·
  refine own_msgs_grown (h.box i hi) hg ?_ hrun; have := hX i hi
  unfold RunC.own RunC.boxV at this
  exact .inr this
theorem gr_setRowR (w : World) (g : Nat) (R : Array Value) : w.grownBy (w.setRow g R) (some g) :=
 have hb := below_setRow (Below.refl 0 w) (Nat.zero_le g) R
 ⟨hb.os, hb.tape, hb.output, hb.size, fun k _ hne => setRow_other w g k R (fun e => hne (by rw [e]))⟩
theorem Keep.aside {w2 w w' : World} {R : Nat} {s s' : RunC} (k : Keep w2 w R s s') {g : Nat} (hg : w.grownBy w' (some g)) (hn : w2.heap.size ≤ g) : Keep w2 w' R s s' :=
 ⟨hg.os.trans k.os, hg.tape.trans k.tape, hg.output.trans k.output, Nat.le_trans k.size hg.size, k.own, fun b hb hR hX => (hg.block b (Nat.lt_of_lt_of_le hb k.size) (fun e => by injection e with e; omega)).trans (k.block b hb hR hX)⟩
theorem own_old {w W : World} {R : Nat} {cs : Array Value} (hb : Blk w R 80 cs) (hs : w.heap.size ≤ W.heap.size) (ho : ∀ b, b < w.heap.size → b ≠ R → W.heap[b]? = w.heap[b]?) {base : Nat} {e : TypeId} {size n : Nat} {v : Value} {xs : List Value} (h : w.ownsRow base e size v n xs) (he : e ≠ 80) : W.ownsRow base e size v n xs := by
 obtain ⟨hl, h | ⟨b, cap, cur, hv, hb1, hh, hc⟩⟩ := h
 · exact ⟨hl, .inl h⟩
 ·
  refine ⟨hl, .inr ⟨b, cap, cur, hv, hb1, (ho b (Array.getElem?_eq_some_iff.1 hh).1 fun e => ?_).trans hh, hc⟩⟩; subst e
  unfold Blk at hb
  rw [hb] at hh
  injection hh with hh
  injection hh with _ g1 _
  exact he g1.symm
theorem msgs_old {w W : World} {R : Nat} {cs : Array Value} (hb : Blk w R 80 cs) (hs : w.heap.size ≤ W.heap.size) (ho : ∀ b, b < w.heap.size → b ≠ R → W.heap[b]? = w.heap[b]?) {base : Nat} {A : Option Addr} {c : Nat} {ms : List Ms.Msg} (h : Ms.OwnMsgs w base A c ms) : Ms.OwnMsgs W base A c ms := by
 obtain ⟨xs, h1, hx⟩ := h; refine ⟨xs, own_old hb hs ho h1 (by decide), fun i m hm => ?_⟩; obtain ⟨a, c', g1, g2, g3⟩ := hx i m hm; exact ⟨a, c', g1, own_old hb hs ho g2 (by decide), g3⟩
theorem rd_lt {w : World} {B size n : Nat} {A : Option Addr} {xs : List Value} (h : Rd w B size A n xs) (hn : 0 < n) {a : Addr} (e : A = some a) : a.block < B := by
 obtain ⟨b, o, e2, hb, _⟩ := h.2 hn; rw [e] at e2
 injection e2 with e2
 subst e2; exact hb
end Cl
end Go.Proofs.Ytobigbnmbnhikaa
