import Derived.Test.YtobigbnmbnhikaaPb0
import Derived.Test.YtobigbnmbnhikaaPbc28
set_option linter.unusedVariables false
set_option linter.unusedSimpArgs false
namespace Go.Proofs.Ytobigbnmbnhikaa
namespace Cf
open Go.ChangeShapes Go.WideShapes Go.ChangeAt Go.RowKit Mem Rws Nd Cl
def beginS (t0 t1 t2 t3 : Int) : CluS := ⟨0, fun i => nodeK (i : Int) t0 t1 t2 t3 3, fun _ => []⟩
noncomputable def runS (t0 t1 t2 t3 : Int) (ys : List InS) : Nat → CluS
 | 0 => beginS t0 t1 t2 t3
 | k + 1 => next (runS t0 t1 t2 t3 ys k) (ys.getD k default)
theorem runS_succ (t0 t1 t2 t3 : Int) (ys : List InS) (i : Nat) : runS t0 t1 t2 t3 ys (i + 1) = next (runS t0 t1 t2 t3 ys i) (ys.getD i default) := rfl
theorem runS_fr (t0 t1 t2 t3 : Int) (ys : List InS) : ∀ k, (runS t0 t1 t2 t3 ys k).fr = (k : Int)
 | 0 => rfl
 | k + 1 => by
  rw [runS_succ]
  show (runS t0 t1 t2 t3 ys k).fr + 1 = _
  rw [runS_fr t0 t1 t2 t3 ys k]; omega
def GoodIns (ys : List InS) : Prop := ys.length ≤ 400 ∧ ∀ i, i < ys.length → (-1 ≤ (ys.getD i default).bad ∧ (ys.getD i default).bad ≤ 3) ∧ (∀ j, j < 12 → Wf ((ys.getD i default).rd j)) ∧ (ys.getD i default).ls.length ≤ 400
theorem node_sane (id t0 t1 t2 t3 : Int) (h0 : 0 ≤ id ∧ id < 4) (h : Wf t0 ∧ Wf t1 ∧ Wf t2 ∧ Wf t3) : WfF (nodeK id t0 t1 t2 t3 3) := fun i z hi e => by
 have hs : ∀ v : Value, v ∈ (List.range 73).map (nodeK id t0 t1 t2 t3 3) → ∀ z, v = .int .i64 z → z = id ∨ z = t0 ∨ z = t1 ∨ z = t2 ∨ z = t3 ∨ z = 0 ∨ z = 4294967296 := by
  rw [show (List.range 73).map (nodeK id t0 t1 t2 t3 3) = ([.int .i64 id, .int .i64 0, .int .i64 t0, .int .i64 t1, .int .i64 t2, .int .i64 t3, .int .i64 0, .int .i64 0, .int .i64 4294967296, .int .i64 0, .int .i64 4294967296, .bool false, .int .i64 0, .int .i64 0, .int .i64 0, .int .i64 4294967296, .int .i64 0, .int .i64 4294967296, .bool false, .int .i64 0, .int .i64 0, .int .i64 0, .int .i64 4294967296, .int .i64 0, .int .i64 4294967296, .bool false, .int .i64 0, .bool true, .bool true, .bool true, .bool true, .int .i64 0, .int .i64 0, .int .i64 0, .int .i64 0, .int .i64 0, .int .i64 0, .int .i64 0, .int .i64 0, .int .i64 0, .int .i64 0, .int .i64 0, .int .i64 0, .int .i64 0, .int .i64 0, .int .i64 0, .int .i64 0, .int .i64 0, .int .i64 0, .int .i64 0, .int .i64 0, .int .i64 0, .int .i64 0, .int .i64 0, .int .i64 0, .int .i64 0, .int .i64 0, .int .i64 0, .int .i64 0, .int .i64 0, .int .i64 0, .int .i64 0, .int .i64 0, .int .i64 0, .int .i64 0, .int .i64 0, .int .i64 0, .int .i64 0, .int .i64 0, .int .i64 0, .int .i64 0, .int .i64 0, .bool false] : List Value) from by kernel_rfl]
  intro v hv z e; simp only [List.mem_cons, List.mem_nil_iff, or_false] at hv
  (rcases hv with rfl | rfl | rfl | rfl | rfl | rfl | rfl | rfl | rfl | rfl | rfl | rfl | rfl | rfl | rfl | rfl | rfl | rfl | rfl | rfl | rfl | rfl | rfl | rfl | rfl | rfl | rfl | rfl | rfl | rfl | rfl | rfl | rfl | rfl | rfl | rfl | rfl | rfl | rfl | rfl | rfl | rfl | rfl | rfl | rfl | rfl | rfl | rfl | rfl | rfl | rfl | rfl | rfl | rfl | rfl | rfl | rfl | rfl | rfl | rfl | rfl | rfl | rfl | rfl | rfl | rfl | rfl | rfl | rfl | rfl | rfl | rfl | rfl) <;> first | (cases e; done) | (have := int_inj e; omega)
 rcases hs _ (List.mem_map.2 ⟨i, List.mem_range.2 hi, rfl⟩) z e with h1 | h1 | h1 | h1 | h1 | h1 | h1 <;> rw [h1]
 · exact wf_of (by omega)
 · exact h.1
 · exact h.2.1
 · exact h.2.2.1
 · exact h.2.2.2
 · exact wf_zero
 · exact wf_of (by omega)
def kindV : Value → Option Bool
 | .int .i64 _ => some true
 | .bool _ => some false
 | _ => none
theorem ok_kind {v : Value} {b : Bool} (h : kindV v = some b) : okT b v := by
 unfold kindV at h
 split at h
 · cases h; exact ⟨_, rfl⟩
 · cases h; exact ⟨_, rfl⟩
 · cases h
theorem ok_rows {f : Nat → Value} (h : (List.range 73).map (fun i => kindV (f i)) = (List.range 73).map (fun i => some (nodeT i))) : ∀ i, i < 73 → okT (nodeT i) (f i) := fun i hi => by
 have h1 := congrArg (·[i]?) h
 simp [hi] at h1
 exact ok_kind h1
theorem ok_node (id t0 t1 t2 t3 : Int) : ∀ i, i < 73 → okT (nodeT i) (nodeK id t0 t1 t2 t3 3 i) := ok_rows (by kernel_rfl)
theorem sane_begin {t0 t1 t2 t3 : Int} (h : Wf t0 ∧ Wf t1 ∧ Wf t2 ∧ Wf t3) : Sane (beginS t0 t1 t2 t3) :=
 ⟨fun i hi => rfl, fun i hi => ok_node _ _ _ _ _, fun i hi => node_sane _ _ _ _ _ (by omega) h, by show (0 : Int) ≤ 0 ∧ (0 : Int) < 1073741824; omega, fun i hi => by show (([] : List Bool)).length ≤ _; simp⟩
theorem sane_run {t0 t1 t2 t3 : Int} {ys : List InS} (h : Wf t0 ∧ Wf t1 ∧ Wf t2 ∧ Wf t3) (hg : GoodIns ys) : ∀ k, k ≤ ys.length → Sane (runS t0 t1 t2 t3 ys k)
 | 0, _ => sane_begin h
 | k + 1, hk => by
  rw [runS_succ]; refine sane_next (sane_run h hg k (by omega)) (hg.2 k (by omega)).2.1 ?_; rw [runS_fr]; have := hg.1; omega
theorem begin_row (t0 t1 t2 t3 : Int) : row 297 (cluK t0 t1 t2 t3 4) = row 297 (cluCell (beginS t0 t1 t2 t3).fr (beginS t0 t1 t2 t3).F (verOf (fun _ => none) (beginS t0 t1 t2 t3).V (fun _ => 0))) := row_congr fun i hi => by
 unfold cluK cluCell
 by_cases h0 : i = 0
 · rw [if_pos h0, if_pos h0]; rfl
 ·
  rw [if_neg h0, if_neg h0, if_pos (by omega)]
  unfold nodeW
  by_cases h : (i - 1) % 74 = 73
  · rw [if_pos h, h]; rfl
  · rw [if_neg h]; rfl
def VerOk (w : World) (c : CluS) (VA : Nat → Option Addr) (VC : Nat → Nat) (X : Nat → Prop) : Prop := ∀ j, j < 4 → (VA j = none → VC j = 0) ∧ (c.V j).length ≤ VC j ∧ Rd w w.heap.size 1 (VA j) (c.V j).length (boolsV (c.V j)) ∧ (0 < (c.V j).length → ∀ a, VA j = some a → ¬ X a.block)
theorem VerOk.grown {w w' : World} {c : CluS} {VA : Nat → Option Addr} {VC : Nat → Nat} {X : Nat → Prop} (h : VerOk w c VA VC X) {row : Option Nat} (hg : w.grownBy w' row) (hr : ∀ g, row = some g → X g) : VerOk w' c VA VC X := fun j hj => by
 obtain ⟨h1, h2, h3, h4⟩ := h j hj; exact ⟨h1, h2, rd_kept h3 hg.size (fun hn a e => hg.block a.block (rd_lt h3 hn e) (fun e2 => h4 hn a e (hr _ e2.symm))), h4⟩
theorem VerOk.below {w w' : World} {c : CluS} {VA : Nat → Option Addr} {VC : Nat → Nat} {X : Nat → Prop} (h : VerOk w c VA VC X) (hb : Below w.heap.size w w') : VerOk w' c VA VC X := fun j hj => by
 obtain ⟨h1, h2, h3, h4⟩ := h j hj; exact ⟨h1, h2, (h3.below hb).more hb.size, h4⟩
theorem VerOk.wider {w : World} {c : CluS} {VA : Nat → Option Addr} {VC : Nat → Nat} {X Y : Nat → Prop} (h : VerOk w c VA VC X) (hY : ∀ b, b < w.heap.size → Y b → X b) : VerOk w c VA VC Y := fun j hj => by
 obtain ⟨h1, h2, h3, h4⟩ := h j hj; exact ⟨h1, h2, h3, fun hn a e hy => h4 hn a e (hY _ (rd_lt h3 hn e) hy)⟩
def ClusIn (w : World) (cs : List Value) (cl : Nat → CluS) (n : Nat) (X : Nat → Prop) : Prop := ∀ j, j < n → ∃ VA VC, (cs.drop (j * 297)).take 297 = (row 297 (cluCell (cl j).fr (cl j).F (verOf VA (cl j).V VC))).toList ∧ VerOk w (cl j) VA VC X
theorem ClusIn.grown {w w' : World} {cs : List Value} {cl : Nat → CluS} {n : Nat} {X : Nat → Prop} (h : ClusIn w cs cl n X) {row : Option Nat} (hg : w.grownBy w' row) (hr : ∀ g, row = some g → X g) : ClusIn w' cs cl n X := fun j hj => by
 obtain ⟨VA, VC, h1, h2⟩ := h j hj; exact ⟨VA, VC, h1, h2.grown hg hr⟩
theorem ClusIn.below {w w' : World} {cs : List Value} {cl : Nat → CluS} {n : Nat} {X : Nat → Prop} (h : ClusIn w cs cl n X) (hb : Below w.heap.size w w') : ClusIn w' cs cl n X := fun j hj => by
 obtain ⟨VA, VC, h1, h2⟩ := h j hj; exact ⟨VA, VC, h1, h2.below hb⟩
theorem ClusIn.wider {w : World} {cs : List Value} {cl : Nat → CluS} {n : Nat} {X Y : Nat → Prop} (h : ClusIn w cs cl n X) (hY : ∀ b, b < w.heap.size → Y b → X b) : ClusIn w cs cl n Y := fun j hj => by
 obtain ⟨VA, VC, h1, h2⟩ := h j hj; exact ⟨VA, VC, h1, h2.wider hY⟩
theorem ClusIn.snoc {w : World} {cs new : List Value} {cl : Nat → CluS} {n : Nat} {X : Nat → Prop} (h : ClusIn w cs cl n X) (hl : cs.length = n * 297) {VA : Nat → Option Addr} {VC : Nat → Nat} (hn : new = (row 297 (cluCell (cl n).fr (cl n).F (verOf VA (cl n).V VC))).toList) (hv : VerOk w (cl n) VA VC X) : ClusIn w (cs ++ new) cl (n + 1) X := fun j hj => by
 by_cases e : j = n
 ·
  subst e; rw [chunk_last hl (by rw [hn, Array.length_toList, row_size])]; exact ⟨VA, VC, hn, hv⟩
 ·
  rw [chunk_snoc hl j (by omega)]; exact h j (by omega)
def RepIn (w : World) (os : List Value) (rp : Nat → List Value × Nat) (n : Nat) (X : Nat → Prop) : Prop := ∀ j, j < n → ∃ RA RC, os[j]? = some (.slice RA (rp j).2 RC) ∧ (RA = none → RC = 0) ∧ (rp j).2 ≤ RC ∧ Rd w w.heap.size 14 RA (rp j).2 (rp j).1 ∧ (0 < (rp j).2 → ∀ a, RA = some a → ¬ X a.block)
theorem RepIn.grown {w w' : World} {os : List Value} {rp : Nat → List Value × Nat} {n : Nat} {X : Nat → Prop} (h : RepIn w os rp n X) {row : Option Nat} (hg : w.grownBy w' row) (hr : ∀ g, row = some g → X g) : RepIn w' os rp n X := fun j hj => by
 obtain ⟨RA, RC, h1, h2, h3, h4, h5⟩ := h j hj; exact ⟨RA, RC, h1, h2, h3, rd_kept h4 hg.size (fun hn a e => hg.block a.block (rd_lt h4 hn e) (fun e2 => h5 hn a e (hr _ e2.symm))), h5⟩
theorem RepIn.below {w w' : World} {os : List Value} {rp : Nat → List Value × Nat} {n : Nat} {X : Nat → Prop} (h : RepIn w os rp n X) (hb : Below w.heap.size w w') : RepIn w' os rp n X := fun j hj => by
 obtain ⟨RA, RC, h1, h2, h3, h4, h5⟩ := h j hj; exact ⟨RA, RC, h1, h2, h3, (h4.below hb).more hb.size, h5⟩
theorem RepIn.wider {w : World} {os : List Value} {rp : Nat → List Value × Nat} {n : Nat} {X Y : Nat → Prop} (h : RepIn w os rp n X) (hY : ∀ b, b < w.heap.size → Y b → X b) : RepIn w os rp n Y := fun j hj => by
 obtain ⟨RA, RC, h1, h2, h3, h4, h5⟩ := h j hj; exact ⟨RA, RC, h1, h2, h3, h4, fun hn a e hy => h5 hn a e (hY _ (rd_lt h4 hn e) hy)⟩
theorem RepIn.snoc {w : World} {os : List Value} {rp : Nat → List Value × Nat} {n : Nat} {X : Nat → Prop} (h : RepIn w os rp n X) (hl : os.length = n) {RA : Option Addr} {RC : Nat} (h2 : RA = none → RC = 0) (h3 : (rp n).2 ≤ RC) (h4 : Rd w w.heap.size 14 RA (rp n).2 (rp n).1) (h5 : 0 < (rp n).2 → ∀ a, RA = some a → ¬ X a.block) : RepIn w (os ++ [.slice RA (rp n).2 RC]) rp (n + 1) X := fun j hj => by
 by_cases e : j = n
 ·
  subst e; exact ⟨RA, RC, by rw [← hl, List.getElem?_append_right (Nat.le_refl _), Nat.sub_self]; rfl, h2, h3, h4, h5⟩
 ·
  obtain ⟨RA2, RC2, g1, g2⟩ := h j (by omega); exact ⟨RA2, RC2, by rw [List.getElem?_append_left (by omega)]; exact g1, g2⟩
theorem own_disj {w : World} {base base' : Nat} {e e' : TypeId} {size size' n n' : Nat} {v v' : Value} {xs xs' : List Value} (h : w.ownsRow base e size v n xs) (h' : w.ownsRow base' e' size' v' n' xs') (he : e ≠ e') : v.ownBlock = none ∨ v.ownBlock ≠ v'.ownBlock := by
 cases hv : v.ownBlock with
 | none => exact .inl rfl
 | some g =>
  refine .inr fun e2 => ?_; obtain ⟨cur, t, g1, g2⟩ := Ms.own_is h he g hv
  obtain ⟨cur', t', g3, g4⟩ := Ms.own_is h' (show e' ≠ e from fun x => he x.symm) g e2.symm
  obtain ⟨hl, ⟨rfl, _⟩ | ⟨b, cap, c2, rfl, _, hh, _⟩⟩ := h
  · cases hv
  ·
   injection hv with hv
   subst hv; rw [hh] at g3
   injection g3 with g3
   injection g3 with _ g3 _
   exact g4 g3.symm
theorem own_ne_blk {w : World} {base : Nat} {e t : TypeId} {size n g : Nat} {v : Value} {xs : List Value} {cs : Array Value} (h : w.ownsRow base e size v n xs) (hb : Blk w g t cs) (he : e ≠ t) : v.ownBlock ≠ some g := fun e2 => by
 obtain ⟨cur, t', g1, g2⟩ := Ms.own_is h he g e2
 unfold Blk at hb
 rw [hb] at g1
 injection g1 with g1
 injection g1 with _ g1 _
 exact g2 g1.symm
theorem own_block_of {w : World} {base : Nat} {e : TypeId} {size n c : Nat} {A : Option Addr} {xs : List Value} (hn : 0 < n) (h : w.ownsRow base e size (.slice A n c) n xs) {a : Addr} (ha : A = some a) : (Value.slice A n c).ownBlock = some a.block := by
 obtain ⟨hl, ⟨h1, _⟩ | ⟨b, cap, c2, h1, _⟩⟩ := h
 · injection h1 with h1; rw [ha] at h1; cases h1
 ·
  injection h1 with h1
  subst ha
  injection h1 with h1
  subst h1; rfl
def WZ (X : Nat → Prop) (o : Option Nat) (b : Nat) : Prop := X b ∨ o = some b
theorem wz_wider {X : Nat → Prop} {o o0 : Option Nat} {N : Nat} (h : o = o0 ∨ o = some N) (hX : ∀ b, o0 = some b → X b) : ∀ b, b < N → WZ X o b → X b := fun b hb hz => by
 rcases hz with hz | hz
 · exact hz
 ·
  rcases h with h | h
  · exact hX b (h.symm.trans hz)
  · rw [h] at hz; injection hz with hz; omega
def WX (gc : Nat) (CA : Option Addr) (n CC : Nat) (OA : Option Addr) (OC : Nat) (b : Nat) : Prop := b = gc ∨ (Value.slice CA n CC).ownBlock = some b ∨ (Value.slice OA n OC).ownBlock = some b
theorem elemClus : Elem Try.prog 26 48 (.agg Try.zeroCells48) 297 2344 := ⟨Try.underlying26, by kernel_rfl, by kernel_rfl, by omega⟩
theorem elemRepL : Elem Try.prog 27 51 (.slice none 0 0) 1 24 := ⟨Try.underlying27, by kernel_rfl, rfl, by omega⟩
structure BeAt (wr wx : World) (c' : CluS) (gd : Nat) (VA2 : Nat → Option Addr) (VC2 : Nat → Nat) (RA : Option Addr) (RC n : Nat) (xs : List Value) : Prop where
 d : Blk wx gd 48 (row 297 (cluCell c'.fr c'.F (verOf VA2 c'.V VC2)))
 v : ∀ j, j < 4 → (VA2 j = none → VC2 j = 0) ∧ (c'.V j).length ≤ VC2 j ∧ Rd wx wx.heap.size 1 (VA2 j) (c'.V j).length (boolsV (c'.V j)) ∧ (0 < (c'.V j).length → ∀ a, VA2 j = some a → wr.heap.size ≤ a.block)
 r : wx.ownsRow wr.heap.size 53 14 (.slice RA n RC) n xs
 b : Below wr.heap.size wr wx
 g : wr.heap.size ≤ gd
noncomputable def repS (t0 t1 t2 t3 : Int) (ys : List InS) (k : Nat) : List Value × Nat := (reps (runS t0 t1 t2 t3 ys k) (ys.getD k default) 4, (goods (ys.getD k default).bad 4).length)
set_option maxRecDepth 100000 in
set_option maxHeartbeats 4000000 in
theorem behind_any (t0 t1 t2 t3 : Int) (ht : Wf t0 ∧ Wf t1 ∧ Wf t2 ∧ Wf t3) (A : Option Addr) (c : Nat) (ys : List InS) (hg : GoodIns ys) (w : World) (h : InsAt w w.heap.size A ys) :
  Calls Try.prog 10 #[.agg #[.int .i64 t0, .int .i64 t1, .int .i64 t2, .int .i64 t3], .slice A ys.length c] w fun e w' => ∃ CA CC OA OC cs os, e = .returned (.tuple #[.slice CA ys.length CC, .slice OA ys.length OC, .bool true]) ∧ w'.ownsRow w.heap.size 48 297 (.slice CA ys.length CC) ys.length cs ∧ ClusIn w' cs (fun k => (runS t0 t1 t2 t3 ys (k + 1))) ys.length (fun _ => False) ∧ w'.ownsRow w.heap.size 51 1 (.slice OA ys.length OC) ys.length os ∧ RepIn w' os (repS t0 t1 t2 t3 ys) ys.length (fun _ => False) ∧ Below w.heap.size w w' := by
 have HIN := zz h; have HSA := zz (fun k (hk : k ≤ ys.length) => sane_run (t0 := t0) (t1 := t1) (t2 := t2) (t3 := t3) ht hg k hk); have HGB := zz hg.2; have HG1 := zz hg.1; clear h hg
 have B2 := zz (show Blk (w.alloc (.cells #[.int .i64 t0, .int .i64 t1, .int .i64 t2, .int .i64 t3] 23)) w.heap.size 23 #[.int .i64 t0, .int .i64 t1, .int .i64 t2, .int .i64 t3] from Blk.fresh _ _ _)
 have HB := zz ((Below.refl w.heap.size w).alloc (Nat.le_refl _) (.cells #[.int .i64 t0, .int .i64 t1, .int .i64 t2, .int .i64 t3] 23))
 go_enter Try.func10, Try.ntmps10
 go_upto_region 1 with fail
 generalize (w.alloc (.cells #[.int .i64 t0, .int .i64 t1, .int .i64 t2, .int .i64 t3] 23)) = w1 at *
 obtain ⟨gt, hgt⟩ : ∃ g, w.heap.size = g := ⟨_, rfl⟩; have HGT := zz hgt; rw [hgt] at B2 HB ⊢; clear hgt
 go_wp2_with (refine wpList_whole rfl 23 _ rfl gt rfl B2.out _ Try.underlying23 rfl (by kernel_rfl) ?_)
 refine (cluster_any t0 t1 t2 t3 w1).mono ?_; rintro e w2 ⟨rfl, hb⟩; rw [begin_row]
 have i0 : (Try.prog.info? 48).map (·.size) = some (row 297 (cluCell (beginS t0 t1 t2 t3).fr (beginS t0 t1 t2 t3).F (verOf (fun _ => none) (beginS t0 t1 t2 t3).V (fun _ => 0)))).size := by rw [row_size]; kernel_rfl
 have z0 : (Try.zeroCells48).size = (row 297 (cluCell (beginS t0 t1 t2 t3).fr (beginS t0 t1 t2 t3).F (verOf (fun _ => none) (beginS t0 t1 t2 t3).V (fun _ => 0)))).size := by rw [row_size]; kernel_rfl
 have o0 := row_one (cluCell_one (sane_begin ht).ok (beginS t0 t1 t2 t3).fr (beginS t0 t1 t2 t3).V (fun _ => none) (fun _ => 0)); obtain ⟨R0, hR0⟩ : ∃ R, row 297 (cluCell (beginS t0 t1 t2 t3).fr (beginS t0 t1 t2 t3).F (verOf (fun _ => none) (beginS t0 t1 t2 t3).V (fun _ => 0))) = R := ⟨_, rfl⟩; rw [hR0] at i0 z0 o0 ⊢; have HR0 := zz hR0; clear hR0; have F1 : Hid (Blk (w2.alloc (.cells Try.zeroCells48 48)) w2.heap.size 48 Try.zeroCells48) := zz (Blk.fresh _ _ _)
 have HB2 := zz (below_setRow ((HB.out.trans (hb.mono (Nat.le_trans (Nat.le_of_eq HGT.out.symm) HB.out.size))).alloc (show gt ≤ w2.heap.size from Nat.le_trans (Nat.le_of_eq HGT.out.symm) (Nat.le_trans HB.out.size hb.size)) (.cells Try.zeroCells48 48)) (show gt ≤ w2.heap.size from Nat.le_trans (Nat.le_of_eq HGT.out.symm) (Nat.le_trans HB.out.size hb.size)) R0)
 have HGC2 := zz (show gt ≤ w2.heap.size from Nat.le_trans (Nat.le_of_eq HGT.out.symm) (Nat.le_trans HB.out.size hb.size))
 clear hb
 go_upto_region 2 with (refine wpList_store_row rfl 48 _ _ rfl w2.heap.size R0 rfl rfl 48 _ F1.out i0 z0 o0 ?_)
 have BC := zz (F1.out.setRow R0); clear F1 i0 z0 o0
 generalize ((w2.alloc (.cells Try.zeroCells48 48)).setRow w2.heap.size R0) = w3 at *
 obtain ⟨gc, hgc⟩ : ∃ g, w2.heap.size = g := ⟨_, rfl⟩; rw [hgc] at BC HGC2 ⊢; clear hgc; go_wp2_with fail
 go_loopw [10, 8, 9] (fun v u t wr => ∃ (i : Nat) (VA : Nat → Option Addr) (VC : Nat → Nat) (CA : Option Addr) (CC : Nat) (OA : Option Addr) (OC : Nat) (cs os : List Value), i ≤ ys.length ∧ v = .int .i64 (i : Int) ∧ u = .slice CA i CC ∧ t = .slice OA i OC ∧ Blk wr gc 48 (row 297 (cluCell (runS t0 t1 t2 t3 ys i).fr (runS t0 t1 t2 t3 ys i).F (verOf VA (runS t0 t1 t2 t3 ys i).V VC))) ∧ VerOk wr (runS t0 t1 t2 t3 ys i) VA VC (WX gc CA i CC OA OC) ∧ wr.ownsRow gc 48 297 (.slice CA i CC) i cs ∧ ClusIn wr cs (fun k => (runS t0 t1 t2 t3 ys (k + 1))) i (WX gc CA i CC OA OC) ∧ wr.ownsRow gc 51 1 (.slice OA i OC) i os ∧ RepIn wr os (repS t0 t1 t2 t3 ys) i (WX gc CA i CC OA OC) ∧ (Value.slice CA i CC).ownBlock ≠ some gc ∧ Below w.heap.size w wr) (fun v _ _ _ => ys.length - (intOf v).toNat)
 case atStart => exact ⟨0, fun _ => none, fun _ => 0, none, 0, none, 0, [], [], by omega, rfl, rfl, rfl, by show Blk w3 gc _ (row 297 (cluCell (beginS t0 t1 t2 t3).fr (beginS t0 t1 t2 t3).F (verOf (fun _ => none) (beginS t0 t1 t2 t3).V (fun _ => 0)))); rw [HR0.out]; exact BC.out, fun j hj => ⟨fun _ => rfl, by show (([] : List Bool)).length ≤ _; simp, Rd.nil _ _ _ _, fun hn => absurd hn (by show ¬ 0 < (([] : List Bool)).length; simp)⟩, World.ownsRow_nil _ _ _ _, fun j hj => by omega, World.ownsRow_nil _ _ _ _, fun j hj => by omega, (fun e => by cases e), by rw [HGT.out]; exact HB2.out⟩
 case round =>
  obtain ⟨i, VA, VC, CA, CC, OA, OC, cs, os, hi, rfl, rfl, rfl, hbc, hvo, hoc, hci, hoo, hri, hnc, hbw⟩ := hrel; have BC := zz hbc; have HVO := zz hvo; have HOC := zz hoc; have HCI := zz hci; have HOO := zz hoo; have HRI := zz hri; have HNC := zz hnc; have HBW := zz hbw; clear hbc hvo hoc hci hoo hri hnc hbw
  by_cases hlt : i < ys.length
  ·
   have hx : ys[i]? = some (ys.getD i default) := by rw [List.getD_eq_getElem?_getD, List.getElem?_eq_getElem hlt]; rfl
   have hgy := HGB.out i hlt; obtain ⟨y, hye⟩ : ∃ y, ys.getD i default = y := ⟨_, rfl⟩; rw [hye] at hx hgy; have HYE := zz hye; have HGY := zz hgy; clear hye hgy; have hin := HIN.out.below HBW.out; obtain ⟨bi, oi, LA, LC, rfl, hbl, hrg, hLA, hLn, hLc, hlies⟩ := hin.at hx
   have hi0 : (0 : Int) ≤ (i : Int) := by omega
   have hi3 : (i : Int) < (ys.length : Int) := by omega
   have iJ : (Try.prog.info? 48).map (·.size) = some (row 297 (cluCell (runS t0 t1 t2 t3 ys i).fr (runS t0 t1 t2 t3 ys i).F (verOf VA (runS t0 t1 t2 t3 ys i).V VC))).size := by rw [row_size]; kernel_rfl
   obtain ⟨RJ, hRJ⟩ : ∃ R, row 297 (cluCell (runS t0 t1 t2 t3 ys i).fr (runS t0 t1 t2 t3 ys i).F (verOf VA (runS t0 t1 t2 t3 ys i).V VC)) = R := ⟨_, rfl⟩; rw [hRJ] at BC iJ; have HRJ := zz hRJ; clear hRJ
   go_upto_region 7 with fail
   go_cut [11, 12, 13] (fun p q r wx => ∃ gd VA2 VC2 RA RC, p = .pointer (some ⟨gd, 0, none⟩) ∧ q = .slice RA (goods y.bad 4).length RC ∧ r = .int .i64 0 ∧ BeAt wr wx (runS t0 t1 t2 t3 ys (i + 1)) gd VA2 VC2 RA RC (goods y.bad 4).length (reps (runS t0 t1 t2 t3 ys i) y 4))
   case first =>
    have hb : Below wr.heap.size wr wr.drew := (Below.refl _ _).drew; have HBR := zz hb; have BC := zz (BC.out.below hb BC.out.lt); have HVO := zz (HVO.out.below hb)
    have HBI := zz (show bi < wr.drew.heap.size from Nat.lt_of_lt_of_le (Nat.lt_of_lt_of_le hbl HBW.out.size) hb.size)
    have HLI := zz (show LiesAt wr.drew wr.drew.heap.size LA y.ls from lies_more ((lies_more hlies HBW.out.size).below hb) hb.size)
    have HIR := zz (show wr.drew.rangeAt bi (oi + i * 14) ((List.range 14).map (inCell y.rd y.bad (.slice LA y.ls.length LC))) from fun j v hv => (hb.cell (p := ⟨bi, oi + i * 14 + j, none⟩) (Nat.lt_of_lt_of_le hbl HBW.out.size)).trans (hrg j v hv))
    clear hb hbl hrg hlies hin; refine wp_region_noPanic ?_; have HSS : Blk wr.drew gc 48 RJ ∧ wr.drew.rangeAt bi (oi + i * 14) ((List.range 14).map (inCell y.rd y.bad (.slice LA y.ls.length LC))) := ⟨BC.out, HIR.out⟩; refine Rg.beginR [0, 4] (fun w' => Blk w' gc 48 RJ ∧ w'.rangeAt bi (oi + i * 14) ((List.range 14).map (inCell y.rd y.bad (.slice LA y.ls.length LC)))) (by kernel_rfl) ?_
    generalize wr.drew = wv at *
    refine Rg.ts 0 ⟨some 23, .load 48 (.tmp 7), _, _, _, none⟩ (v := .agg RJ) rfl HSS ?_ ?_
    · (intro w' hSw; exact exec_load_row 48 _ rfl _ rfl hSw.1 Try.underlying48 rfl iJ)
    (try simp only [Rg.lp]); refine Rg.tq 1 ⟨some 24, .move (.tmp 1), _, _, _, none⟩ rfl ?_; (try simp only [Rg.lp]); refine Rg.tq 2 ⟨some 25, .move (.tmp 10), _, _, _, none⟩ rfl ?_; (try simp only [Rg.lp]); refine Rg.tq 3 ⟨some 26, .indexAddr 24 (.tmp 24) (.tmp 25), _, _, _, none⟩ rfl ?_; (try simp only [Rg.lp]); refine Rg.ts 4 ⟨some 27, .load 56 (.tmp 26), _, _, _, none⟩ (v := .agg (row 14 (inCell y.rd y.bad (.slice LA y.ls.length LC)))) rfl HSS ?_ ?_
    · (intro w' hSw; exact exec_load_mid 56 _ rfl bi (oi + i * 14) 14 rfl _ _ hSw.2 Try.underlying56 rfl (by kernel_rfl))
    (try simp only [Rg.lp]); refine Rg.twoR (i := 5) (j := 10) (oi := ⟨some 28, .call { callee := .value (.func 17), args := #[.tmp 23, .tmp 27], argTypes := _ }, _, _, _, none⟩) (oj := ⟨some 11, .alloc 48, _, _, _, none⟩) (by kernel_rfl) rfl rfl ?_ ?_
    ·
     refine Rg.stepF ?_ ?_
     · kernel_rfl
     intro K hK; rw [if_pos (by rfl)]; clear HSS; rw [← HRJ.out]; go_simp; refine (frame_any (runS t0 t1 t2 t3 ys i) y (HSA.out i (by omega)) HGY.out.1 HGY.out.2.1 HGY.out.2.2 VA VC LA LC wv (fun j hj => ⟨(HVO.out j hj).1, (HVO.out j hj).2.1, (HVO.out j hj).2.2.1⟩) HLI.out).mono ?_; rintro e w4 ⟨VA2, VC2, RA, RC, rfl, hv2, hown, hb⟩
     have hr2 : runS t0 t1 t2 t3 ys (i + 1) = next (runS t0 t1 t2 t3 ys i) y := by rw [runS_succ, HYE.out]
     rw [← hr2] at hv2 ⊢
     have iN : (Try.prog.info? 48).map (·.size) = some (row 297 (cluCell (runS t0 t1 t2 t3 ys (i + 1)).fr (runS t0 t1 t2 t3 ys (i + 1)).F (verOf VA2 (runS t0 t1 t2 t3 ys (i + 1)).V VC2))).size := by rw [row_size]; kernel_rfl
     have zN : (Try.zeroCells48).size = (row 297 (cluCell (runS t0 t1 t2 t3 ys (i + 1)).fr (runS t0 t1 t2 t3 ys (i + 1)).F (verOf VA2 (runS t0 t1 t2 t3 ys (i + 1)).V VC2))).size := by rw [row_size]; kernel_rfl
     have oN := row_one (cluCell_one (HSA.out (i + 1) (by omega)).ok (runS t0 t1 t2 t3 ys (i + 1)).fr (runS t0 t1 t2 t3 ys (i + 1)).V VA2 VC2); obtain ⟨RN, hRN⟩ : ∃ R, row 297 (cluCell (runS t0 t1 t2 t3 ys (i + 1)).fr (runS t0 t1 t2 t3 ys (i + 1)).F (verOf VA2 (runS t0 t1 t2 t3 ys (i + 1)).V VC2)) = R := ⟨_, rfl⟩; rw [hRN] at iN zN oN ⊢; have HRN := zz hRN; clear hRN hr2
     have HV2 := zz (show ∀ j, j < 4 → (VA2 j = none → VC2 j = 0) ∧ ((runS t0 t1 t2 t3 ys (i + 1)).V j).length ≤ VC2 j ∧ Rd w4 w4.heap.size 1 (VA2 j) ((runS t0 t1 t2 t3 ys (i + 1)).V j).length (boolsV ((runS t0 t1 t2 t3 ys (i + 1)).V j)) ∧ (0 < ((runS t0 t1 t2 t3 ys (i + 1)).V j).length → ∀ a, VA2 j = some a → wr.heap.size ≤ a.block) from fun j hj => ⟨(hv2 j hj).1, (hv2 j hj).2.1, (hv2 j hj).2.2.1, fun hn a e => Nat.le_trans HBR.out.size ((hv2 j hj).2.2.2 hn a e)⟩)
     have HOW := zz (own_weaken hown (show wr.heap.size ≤ wv.heap.size from HBR.out.size))
     have HBR := zz (onward HBR.out (Nat.le_refl _) hb); have BC := zz (BC.out.below hb BC.out.lt)
     have HIR := zz (show w4.rangeAt bi (oi + i * 14) ((List.range 14).map (inCell y.rd y.bad (.slice LA y.ls.length LC))) from fun j v hv => (hb.cell (p := ⟨bi, oi + i * 14 + j, none⟩) HBI.out).trans (HIR.out j v hv))
     have HBI := zz (Nat.lt_of_lt_of_le HBI.out hb.size); clear hv2 hown hb
     generalize wv = wq at *
     generalize w4 = wv at *
     have HSS : Blk wv gc 48 RJ ∧ wv.rangeAt bi (oi + i * 14) ((List.range 14).map (inCell y.rd y.bad (.slice LA y.ls.length LC))) := ⟨BC.out, HIR.out⟩; refine hK.out _ _ ?_; clear hK K; (try simp only [Rg.lp]); refine Rg.tq 6 ⟨some 22, .move (.tmp 28), _, _, _, none⟩ rfl ?_; (try simp only [Rg.lp]); refine Rg.tq 7 ⟨some 29, .extract (.tmp 22) 0, _, _, _, none⟩ rfl ?_; (try simp only [Rg.lp]); refine Rg.tq 8 ⟨some 30, .extract (.tmp 22) 1, _, _, _, none⟩ rfl ?_; (try simp only [Rg.lp]); refine Rg.tq 9 ⟨some 31, .extract (.tmp 22) 2, _, _, _, none⟩ rfl ?_; (try simp only [Rg.lp]); refine Rg.or1 10 ⟨some 11, .alloc 48, _, _, _, none⟩ rfl ?_; refine Rg.stepS ?_; intro K hK; go_simp; clear HSS; have hb : Below wv.heap.size wv (wv.alloc (.cells Try.zeroCells48 48)) := (Below.refl _ _).alloc (Nat.le_refl _) _
     have BD := zz (show Blk (wv.alloc (.cells Try.zeroCells48 48)) wv.heap.size 48 Try.zeroCells48 from Blk.fresh _ _ _)
     have HDN := zz (show ∀ j, j < 4 → 0 < ((runS t0 t1 t2 t3 ys (i + 1)).V j).length → ∀ a, VA2 j = some a → a.block ≠ wv.heap.size from fun j hj hn a e => Nat.ne_of_lt (rd_lt (HV2.out j hj).2.2.1 hn e))
     have HDO := zz (show (Value.slice RA (goods y.bad 4).length RC).ownBlock ≠ some wv.heap.size from fun e => Nat.lt_irrefl _ (HOW.out.lt _ e).2)
     have HV2 := zz (fun j (hj : j < 4) => (⟨(HV2.out j hj).1, (HV2.out j hj).2.1, ((HV2.out j hj).2.2.1.below hb).more hb.size, (HV2.out j hj).2.2.2⟩ : (VA2 j = none → VC2 j = 0) ∧ ((runS t0 t1 t2 t3 ys (i + 1)).V j).length ≤ VC2 j ∧ Rd (wv.alloc (.cells Try.zeroCells48 48)) ((wv.alloc (.cells Try.zeroCells48 48))).heap.size 1 (VA2 j) ((runS t0 t1 t2 t3 ys (i + 1)).V j).length (boolsV ((runS t0 t1 t2 t3 ys (i + 1)).V j)) ∧ (0 < ((runS t0 t1 t2 t3 ys (i + 1)).V j).length → ∀ a, VA2 j = some a → wr.heap.size ≤ a.block))); have HOW := zz (ownsRow_below HOW.out hb); have BC := zz (BC.out.below hb BC.out.lt)
     have HIR := zz (show (wv.alloc (.cells Try.zeroCells48 48)).rangeAt bi (oi + i * 14) ((List.range 14).map (inCell y.rd y.bad (.slice LA y.ls.length LC))) from fun j v hv => (hb.cell (p := ⟨bi, oi + i * 14 + j, none⟩) HBI.out).trans (HIR.out j v hv))
     have HBI := zz (Nat.lt_of_lt_of_le HBI.out hb.size)
     have HDG := zz (show wr.heap.size ≤ wv.heap.size from HBR.out.size)
     have HBR := zz (onward HBR.out (Nat.le_refl _) hb)
     have HDL := zz (show wv.heap.size < ((wv.alloc (.cells Try.zeroCells48 48))).heap.size by simp)
     clear hb; obtain ⟨gd, hgd⟩ : ∃ g, wv.heap.size = g := ⟨_, rfl⟩; rw [hgd] at BD HDG HDL HDN HDO ⊢; clear hgd
     generalize (wv.alloc (.cells Try.zeroCells48 48)) = wv at *
     have HSS : Blk wv gc 48 RJ ∧ wv.rangeAt bi (oi + i * 14) ((List.range 14).map (inCell y.rd y.bad (.slice LA y.ls.length LC))) := ⟨BC.out, HIR.out⟩; refine hK.out _ _ HSS ?_; clear hK K; (try simp only [Rg.lp]); refine Rg.or1 11 ⟨none, .store 48 (.tmp 11) (.tmp 29), _, _, _, none⟩ rfl ?_; refine Rg.stepF ?_ ?_
     · kernel_rfl
     intro K hK; rw [if_pos (by rfl)]; clear HSS; refine wp_store_row 48 _ _ rfl gd RN rfl rfl 48 _ BD.out iN zN oN ?_; have hgr := gr_setRowR wv gd RN; have BD := zz (BD.out.setRow RN); have HV2 := zz (fun j (hj : j < 4) => (⟨(HV2.out j hj).1, (HV2.out j hj).2.1, rd_kept (HV2.out j hj).2.2.1 hgr.size (fun hn a e => setRow_other wv gd a.block RN (HDN.out j hj hn a e)), (HV2.out j hj).2.2.2⟩ : (VA2 j = none → VC2 j = 0) ∧ ((runS t0 t1 t2 t3 ys (i + 1)).V j).length ≤ VC2 j ∧ Rd (wv.setRow gd RN) (wv.setRow gd RN).heap.size 1 (VA2 j) ((runS t0 t1 t2 t3 ys (i + 1)).V j).length (boolsV ((runS t0 t1 t2 t3 ys (i + 1)).V j)) ∧ (0 < ((runS t0 t1 t2 t3 ys (i + 1)).V j).length → ∀ a, VA2 j = some a → wr.heap.size ≤ a.block))); have HOW := zz (HOW.out.kept hgr (.inr HDO.out)); have HBR := zz (below_setRow HBR.out HDG.out RN); clear hgr
     generalize (wv.setRow gd RN) = wv at *
     refine hK.out _ _ ?_; clear hK K; (try simp only [Rg.lp]); refine Rg.tq 12 ⟨some 12, .assign (.tmp 30), _, _, _, none⟩ rfl ?_; (try simp only [Rg.lp]); refine Rg.tq 13 ⟨some 13, .assign (.tmp 31), _, _, _, none⟩ rfl ?_; (try simp only [Rg.lp]); refine Rg.doneR (by kernel_rfl) ?_ _; refine NoPanic.normal ?_; go_wp2_with fail
     go_meet
     exact ⟨gd, VA2, VC2, RA, RC, rfl, rfl, rfl, ⟨by rw [HRN.out]; exact BD.out, HV2.out, HOW.out, HBR.out, HDG.out⟩⟩
    ·
     refine Rg.stepS ?_; intro K hK; go_simp; clear HSS; have hb : Below wv.heap.size wv (wv.alloc (.cells Try.zeroCells48 48)) := (Below.refl _ _).alloc (Nat.le_refl _) _
     have BD := zz (show Blk (wv.alloc (.cells Try.zeroCells48 48)) wv.heap.size 48 Try.zeroCells48 from Blk.fresh _ _ _)
     have HVO := zz (HVO.out.below hb); have HLI := zz (lies_more (HLI.out.below hb) hb.size); have BC := zz (BC.out.below hb BC.out.lt)
     have HIR := zz (show (wv.alloc (.cells Try.zeroCells48 48)).rangeAt bi (oi + i * 14) ((List.range 14).map (inCell y.rd y.bad (.slice LA y.ls.length LC))) from fun j v hv => (hb.cell (p := ⟨bi, oi + i * 14 + j, none⟩) HBI.out).trans (HIR.out j v hv))
     have HBI := zz (Nat.lt_of_lt_of_le HBI.out hb.size)
     have HDG := zz (show wr.heap.size ≤ wv.heap.size from HBR.out.size)
     have HBR := zz (onward HBR.out (Nat.le_refl _) hb)
     have HDL := zz (show wv.heap.size < ((wv.alloc (.cells Try.zeroCells48 48))).heap.size by simp)
     clear hb; obtain ⟨gd, hgd⟩ : ∃ g, wv.heap.size = g := ⟨_, rfl⟩; rw [hgd] at BD HDG HDL ⊢; clear hgd
     generalize (wv.alloc (.cells Try.zeroCells48 48)) = wv at *
     have HSS : Blk wv gc 48 RJ ∧ wv.rangeAt bi (oi + i * 14) ((List.range 14).map (inCell y.rd y.bad (.slice LA y.ls.length LC))) := ⟨BC.out, HIR.out⟩; refine hK.out _ _ HSS ?_; clear hK K; (try simp only [Rg.lp]); refine Rg.or1 5 ⟨some 28, .call { callee := .value (.func 17), args := #[.tmp 23, .tmp 27], argTypes := _ }, _, _, _, none⟩ rfl ?_; refine Rg.stepF ?_ ?_
     · kernel_rfl
     intro K hK; rw [if_pos (by rfl)]; clear HSS; rw [← HRJ.out]; go_simp; refine (frame_any (runS t0 t1 t2 t3 ys i) y (HSA.out i (by omega)) HGY.out.1 HGY.out.2.1 HGY.out.2.2 VA VC LA LC wv (fun j hj => ⟨(HVO.out j hj).1, (HVO.out j hj).2.1, (HVO.out j hj).2.2.1⟩) HLI.out).mono ?_; rintro e w4 ⟨VA2, VC2, RA, RC, rfl, hv2, hown, hb⟩
     have hr2 : runS t0 t1 t2 t3 ys (i + 1) = next (runS t0 t1 t2 t3 ys i) y := by rw [runS_succ, HYE.out]
     rw [← hr2] at hv2 ⊢
     have iN : (Try.prog.info? 48).map (·.size) = some (row 297 (cluCell (runS t0 t1 t2 t3 ys (i + 1)).fr (runS t0 t1 t2 t3 ys (i + 1)).F (verOf VA2 (runS t0 t1 t2 t3 ys (i + 1)).V VC2))).size := by rw [row_size]; kernel_rfl
     have zN : (Try.zeroCells48).size = (row 297 (cluCell (runS t0 t1 t2 t3 ys (i + 1)).fr (runS t0 t1 t2 t3 ys (i + 1)).F (verOf VA2 (runS t0 t1 t2 t3 ys (i + 1)).V VC2))).size := by rw [row_size]; kernel_rfl
     have oN := row_one (cluCell_one (HSA.out (i + 1) (by omega)).ok (runS t0 t1 t2 t3 ys (i + 1)).fr (runS t0 t1 t2 t3 ys (i + 1)).V VA2 VC2); obtain ⟨RN, hRN⟩ : ∃ R, row 297 (cluCell (runS t0 t1 t2 t3 ys (i + 1)).fr (runS t0 t1 t2 t3 ys (i + 1)).F (verOf VA2 (runS t0 t1 t2 t3 ys (i + 1)).V VC2)) = R := ⟨_, rfl⟩; rw [hRN] at iN zN oN ⊢; have HRN := zz hRN; clear hRN hr2; have BD := zz (BD.out.below hb BD.out.lt)
     have HDN := zz (show ∀ j, j < 4 → 0 < ((runS t0 t1 t2 t3 ys (i + 1)).V j).length → ∀ a, VA2 j = some a → a.block ≠ gd from fun j hj hn a e => by have := (hv2 j hj).2.2.2 hn a e; have := HDL.out; omega)
     have HDO := zz (show (Value.slice RA (goods y.bad 4).length RC).ownBlock ≠ some gd from fun e => by have := (hown.lt _ e).1; have := HDL.out; omega)
     have HV2 := zz (show ∀ j, j < 4 → (VA2 j = none → VC2 j = 0) ∧ ((runS t0 t1 t2 t3 ys (i + 1)).V j).length ≤ VC2 j ∧ Rd w4 w4.heap.size 1 (VA2 j) ((runS t0 t1 t2 t3 ys (i + 1)).V j).length (boolsV ((runS t0 t1 t2 t3 ys (i + 1)).V j)) ∧ (0 < ((runS t0 t1 t2 t3 ys (i + 1)).V j).length → ∀ a, VA2 j = some a → wr.heap.size ≤ a.block) from fun j hj => ⟨(hv2 j hj).1, (hv2 j hj).2.1, (hv2 j hj).2.2.1, fun hn a e => Nat.le_trans HBR.out.size ((hv2 j hj).2.2.2 hn a e)⟩)
     have HOW := zz (own_weaken hown (show wr.heap.size ≤ wv.heap.size from HBR.out.size))
     have HBR := zz (onward HBR.out (Nat.le_refl _) hb); have BC := zz (BC.out.below hb BC.out.lt)
     have HIR := zz (show w4.rangeAt bi (oi + i * 14) ((List.range 14).map (inCell y.rd y.bad (.slice LA y.ls.length LC))) from fun j v hv => (hb.cell (p := ⟨bi, oi + i * 14 + j, none⟩) HBI.out).trans (HIR.out j v hv))
     have HBI := zz (Nat.lt_of_lt_of_le HBI.out hb.size); clear hv2 hown hb
     generalize wv = wq at *
     generalize w4 = wv at *
     have HSS : Blk wv gc 48 RJ ∧ wv.rangeAt bi (oi + i * 14) ((List.range 14).map (inCell y.rd y.bad (.slice LA y.ls.length LC))) := ⟨BC.out, HIR.out⟩; refine hK.out _ _ ?_; clear hK K; (try simp only [Rg.lp]); refine Rg.tq 6 ⟨some 22, .move (.tmp 28), _, _, _, none⟩ rfl ?_; (try simp only [Rg.lp]); refine Rg.tq 7 ⟨some 29, .extract (.tmp 22) 0, _, _, _, none⟩ rfl ?_; (try simp only [Rg.lp]); refine Rg.tq 8 ⟨some 30, .extract (.tmp 22) 1, _, _, _, none⟩ rfl ?_; (try simp only [Rg.lp]); refine Rg.tq 9 ⟨some 31, .extract (.tmp 22) 2, _, _, _, none⟩ rfl ?_; (try simp only [Rg.lp]); refine Rg.or1 11 ⟨none, .store 48 (.tmp 11) (.tmp 29), _, _, _, none⟩ rfl ?_; refine Rg.stepF ?_ ?_
     · kernel_rfl
     intro K hK; rw [if_pos (by rfl)]; clear HSS; refine wp_store_row 48 _ _ rfl gd RN rfl rfl 48 _ BD.out iN zN oN ?_; have hgr := gr_setRowR wv gd RN; have BD := zz (BD.out.setRow RN); have HV2 := zz (fun j (hj : j < 4) => (⟨(HV2.out j hj).1, (HV2.out j hj).2.1, rd_kept (HV2.out j hj).2.2.1 hgr.size (fun hn a e => setRow_other wv gd a.block RN (HDN.out j hj hn a e)), (HV2.out j hj).2.2.2⟩ : (VA2 j = none → VC2 j = 0) ∧ ((runS t0 t1 t2 t3 ys (i + 1)).V j).length ≤ VC2 j ∧ Rd (wv.setRow gd RN) (wv.setRow gd RN).heap.size 1 (VA2 j) ((runS t0 t1 t2 t3 ys (i + 1)).V j).length (boolsV ((runS t0 t1 t2 t3 ys (i + 1)).V j)) ∧ (0 < ((runS t0 t1 t2 t3 ys (i + 1)).V j).length → ∀ a, VA2 j = some a → wr.heap.size ≤ a.block))); have HOW := zz (HOW.out.kept hgr (.inr HDO.out)); have HBR := zz (below_setRow HBR.out HDG.out RN); clear hgr
     generalize (wv.setRow gd RN) = wv at *
     refine hK.out _ _ ?_; clear hK K; (try simp only [Rg.lp]); refine Rg.tq 12 ⟨some 12, .assign (.tmp 30), _, _, _, none⟩ rfl ?_; (try simp only [Rg.lp]); refine Rg.tq 13 ⟨some 13, .assign (.tmp 31), _, _, _, none⟩ rfl ?_; (try simp only [Rg.lp]); refine Rg.doneR (by kernel_rfl) ?_ _; refine NoPanic.normal ?_; go_wp2_with fail
     go_meet
     exact ⟨gd, VA2, VC2, RA, RC, rfl, rfl, rfl, ⟨by rw [HRN.out]; exact BD.out, HV2.out, HOW.out, HBR.out, HDG.out⟩⟩
   case rest =>
    obtain ⟨gd, VA2, VC2, RA, RC, rfl, rfl, rfl, hbe⟩ := hcut
    have HCL := zz (show cs.length = i * 297 from HOC.out.1)
    have HE := zz hbe; clear hbe
    have HSW := zz (show gc < wr.heap.size from BC.out.lt)
    have HLA := zz (show ∀ b, WX gc CA i CC OA OC b → b < wr.heap.size from fun b hx => by
     rcases hx with h | h | h
     · rw [h]; exact BC.out.lt
     · exact (HOC.out.lt b h).2
     · exact (HOO.out.lt b h).2)
    have BC := zz (BC.out.below HE.out.b BC.out.lt); have HOC := zz (ownsRow_below HOC.out HE.out.b); have HCI := zz (HCI.out.below HE.out.b); have HOO := zz (ownsRow_below HOO.out HE.out.b); have HRI := zz (HRI.out.below HE.out.b); have HBW := zz (onward HBW.out (Nat.le_refl _) HE.out.b)
    have HVN := zz (show VerOk wc (runS t0 t1 t2 t3 ys (i + 1)) VA2 VC2 (WX gc CA i CC OA OC) from fun j hj => ⟨(HE.out.v j hj).1, (HE.out.v j hj).2.1, (HE.out.v j hj).2.2.1, fun hn a e hx => by have h1 := (HE.out.v j hj).2.2.2 hn a e; have h2 := HLA.out _ hx; omega⟩)
    have HRO := zz HE.out.r
    have HRX := zz (show ∀ b, (Value.slice RA (goods y.bad 4).length RC).ownBlock = some b → ¬ WX gc CA i CC OA OC b from fun b e hx => by have h1 := (HE.out.r.lt b e).1; have h2 := HLA.out _ hx; omega)
    have BD := zz HE.out.d
    have iN : (Try.prog.info? 48).map (·.size) = some (row 297 (cluCell (runS t0 t1 t2 t3 ys (i + 1)).fr (runS t0 t1 t2 t3 ys (i + 1)).F (verOf VA2 (runS t0 t1 t2 t3 ys (i + 1)).V VC2))).size := by rw [row_size]; kernel_rfl
    have zN : RJ.size = (row 297 (cluCell (runS t0 t1 t2 t3 ys (i + 1)).fr (runS t0 t1 t2 t3 ys (i + 1)).F (verOf VA2 (runS t0 t1 t2 t3 ys (i + 1)).V VC2))).size := by rw [row_size, ← HRJ.out, row_size]
    have oN := row_one (cluCell_one (HSA.out (i + 1) (by omega)).ok (runS t0 t1 t2 t3 ys (i + 1)).fr (runS t0 t1 t2 t3 ys (i + 1)).V VA2 VC2); have sN : (row 297 (cluCell (runS t0 t1 t2 t3 ys (i + 1)).fr (runS t0 t1 t2 t3 ys (i + 1)).F (verOf VA2 (runS t0 t1 t2 t3 ys (i + 1)).V VC2))).size = 297 := row_size _ _; have y0 := BD.out.cell 0
    rw [row_at (by omega), show cluCell (runS t0 t1 t2 t3 ys (i + 1)).fr (runS t0 t1 t2 t3 ys (i + 1)).F (verOf VA2 (runS t0 t1 t2 t3 ys (i + 1)).V VC2) 0 = .int .i64 (runS t0 t1 t2 t3 ys (i + 1)).fr from rfl, runS_fr] at y0
    obtain ⟨RN, hRN⟩ : ∃ R, (row 297 (cluCell (runS t0 t1 t2 t3 ys (i + 1)).fr (runS t0 t1 t2 t3 ys (i + 1)).F (verOf VA2 (runS t0 t1 t2 t3 ys (i + 1)).V VC2))) = R := ⟨_, rfl⟩; rw [hRN] at BD iN zN oN sN; have HRN := zz hRN; clear hRN HE
    have hwi : IntKind.i64.wrap ((i : Int) + 1) = ((i + 1 : Nat) : Int) := by rw [IntKind.wrap_i64]; have := HG1.out; omega
    go_upto_region 10 with fail
    clear y0
    go_upto_region 11 with (first
     | (refine wpList_whole rfl 48 _ rfl gd rfl BD.out _ Try.underlying48 rfl iN ?_)
     | (refine wpList_store_row rfl 48 _ _ rfl gc RN rfl rfl 48 _ BC.out iN zN oN ?_))
    have hgr := gr_setRowR wc gc RN; have hX0 : ∀ g, some gc = some g → WX gc CA i CC OA OC g := fun g e => .inl (by injection e with e; exact e.symm); have HOO := zz (HOO.out.kept hgr (.inr (own_ne_blk HOO.out BC.out (by decide)))); have HRO := zz (HRO.out.kept hgr (.inr (own_ne_blk HRO.out BC.out (by decide)))); have BC := zz (BC.out.setRow RN); have HOC := zz (HOC.out.kept hgr (.inr HNC.out)); have HCI := zz (HCI.out.grown hgr hX0); have HRI := zz (HRI.out.grown hgr hX0); have HVN := zz (HVN.out.grown hgr hX0); have HBW := zz (HBW.out.grown hgr HBW.out.size (fun g e => by injection e with e; have h1 := HGT.out; have h2 := HGC2.out; omega)); clear hgr hX0 BD
    generalize (wc.setRow gc RN) = wy at *
    have hbA : Below wy.heap.size wy (wy.alloc (.cells RN 48)) := (Below.refl _ _).alloc (Nat.le_refl _) _
    have HCF := zz (show ∀ j u, RN.toList[j]? = some u → (wy.alloc (.cells RN 48)).cell? (Addr.add ⟨wy.heap.size, 0, none⟩ j) = some u from fun j u hu => by
     have := cells_fresh wy RN.toList 48 j u hu
     rwa [Array.toArray_toList] at this)
    have HOC := zz (ownsRow_below HOC.out hbA); have HOO := zz (ownsRow_below HOO.out hbA); have HRO := zz (ownsRow_below HRO.out hbA); have HCI := zz (HCI.out.below hbA); have HRI := zz (HRI.out.below hbA); have HVN := zz (HVN.out.below hbA); have BCa := zz (BC.out.below hbA BC.out.lt); have HBW := zz (onward HBW.out (Nat.le_refl _) hbA)
    have HO1 := zz (show ∀ u ∈ RN.toList, u.oneCell' = true from fun u hu => by rw [Array.all_eq_true'] at oN; exact oN u (by simpa using hu))
    have HGS := zz (show gc ≤ (wy.alloc (.cells RN 48)).heap.size from Nat.le_of_lt BCa.out.lt)
    clear hbA oN zN; refine wp_region_list ?_; refine wpList_wanted (by rfl) (fun K hK => ?_); go_simp; refine hK _ _ ?_; clear hK K; (try simp only [Rg.lp]); refine wpList_whole (by rfl) 48 _ rfl gc rfl BC.out _ Try.underlying48 rfl iN ?_; (try simp only [Rg.lp]); refine wpList_slice1 rfl 26 48 _ rfl (.agg RN) rfl 297 Try.underlying26 (by kernel_rfl) (by kernel_rfl) (by omega) (by omega) sN ?_; (try simp only [Rg.lp])
    rw [show (Value.agg RN).cells = RN from rfl]
    generalize (wy.alloc (.cells RN 48)) = wa at *
    refine wpList_append_at _ rfl (.tmp 42) (.tmp 44) 26 rfl (base := gc) elemClus rfl HOC.out rfl (news := RN.toList) (by rw [Array.length_toList, sN]) HCF.out HO1.out (by have := HG1.out; unfold maxLen; omega) (by have := HG1.out; omega) HGS.out ?_; intro A5 C5 w5 hown5 hg5 hat5; (try simp only [Rg.lp]); have hz1 := wz_wider (X := WX gc CA i CC OA OC) hat5 (fun b e => .inr (.inl e)); have hx1 : ∀ g, (Value.slice CA i CC).ownBlock = some g → WZ (WX gc CA i CC OA OC) (Value.slice A5 (i + 1) C5).ownBlock g := fun g e => .inl (.inr (.inl e)); have HCI := zz ((HCI.out.wider hz1).grown hg5 hx1); have HRI := zz ((HRI.out.wider hz1).grown hg5 hx1); have HVN := zz ((HVN.out.wider hz1).grown hg5 hx1)
    have HRX := zz (show ∀ b, (Value.slice RA (goods y.bad 4).length RC).ownBlock = some b → ¬ WZ (WX gc CA i CC OA OC) (Value.slice A5 (i + 1) C5).ownBlock b from fun b e hx => HRX.out b e (hz1 b (HRO.out.lt b e).2 hx))
    have HOO := zz (HOO.out.kept hg5 (own_disj HOO.out HOC.out (by decide))); have HRO := zz (HRO.out.kept hg5 (own_disj HRO.out HOC.out (by decide))); have BC := zz (BCa.out.grown hg5 (fun e => HNC.out e.symm))
    have HNC5 := zz (show (Value.slice A5 (i + 1) C5).ownBlock ≠ some gc from fun e => by
     rcases hat5 with h | h
     · exact HNC.out (h.symm.trans e)
     · rw [h] at e; injection e with e; have := BCa.out.lt; omega)
    have HBW := zz (HBW.out.grown hg5 HBW.out.size (fun g e => by have h0 := (HOC.out.lt g e).1; have h1 := HGT.out; have h2 := HGC2.out; omega)); have HOC5 := zz hown5; clear hown5 hg5 hat5 hz1 hx1 BCa HGS HCF HO1 HOC; have hbB : Below w5.heap.size w5 (w5.alloc (.cells #[.slice RA (goods y.bad 4).length RC] 51)) := (Below.refl _ _).alloc (Nat.le_refl _) _; have HCG := zz (cells_fresh w5 [.slice RA (goods y.bad 4).length RC] 51); have HOC5 := zz (ownsRow_below HOC5.out hbB); have HOO := zz (ownsRow_below HOO.out hbB); have HRO := zz (ownsRow_below HRO.out hbB); have HCI := zz (HCI.out.below hbB); have HRI := zz (HRI.out.below hbB); have HVN := zz (HVN.out.below hbB); have BC := zz (BC.out.below hbB BC.out.lt); have HBW := zz (onward HBW.out (Nat.le_refl _) hbB)
    have HGS := zz (show gc ≤ (w5.alloc (.cells #[.slice RA (goods y.bad 4).length RC] 51)).heap.size from Nat.le_of_lt BC.out.lt)
    clear hbB; refine wpList_wanted (by rfl) (fun K hK => ?_); go_simp; refine hK _ _ ?_; clear hK K; (try simp only [Rg.lp]); refine wpList_wanted (by rfl) (fun K hK => ?_); go_simp; refine hK _ _ ?_; clear hK K; (try simp only [Rg.lp]); refine wpList_slice1 rfl 27 51 _ rfl (.slice RA (goods y.bad 4).length RC) rfl 1 Try.underlying27 (by kernel_rfl) (by kernel_rfl) (by omega) (by omega) rfl ?_; (try simp only [Rg.lp])
    rw [show (Value.slice RA (goods y.bad 4).length RC).cells = #[.slice RA (goods y.bad 4).length RC] from rfl]
    generalize (w5.alloc (.cells #[.slice RA (goods y.bad 4).length RC] 51)) = wz at *
    refine wpList_append_at _ rfl (.tmp 46) (.tmp 48) 27 rfl (base := gc) elemRepL rfl HOO.out rfl (news := [.slice RA (goods y.bad 4).length RC]) rfl HCG.out (by simp [Value.oneCell']) (by have := HG1.out; unfold maxLen; omega) (by have := HG1.out; omega) HGS.out ?_; intro O7 D7 w7 hown7 hg7 hat7; (try simp only [Rg.lp]); have hz2 := wz_wider (X := WZ (WX gc CA i CC OA OC) (Value.slice A5 (i + 1) C5).ownBlock) hat7 (fun b e => .inl (.inr (.inr e))); have hx2 : ∀ g, (Value.slice OA i OC).ownBlock = some g → WZ (WZ (WX gc CA i CC OA OC) (Value.slice A5 (i + 1) C5).ownBlock) (Value.slice O7 (i + 1) D7).ownBlock g := fun g e => .inl (.inl (.inr (.inr e)))
    have hy2 : ∀ b, WX gc A5 (i + 1) C5 O7 D7 b → WZ (WZ (WX gc CA i CC OA OC) (Value.slice A5 (i + 1) C5).ownBlock) (Value.slice O7 (i + 1) D7).ownBlock b := fun b h => by
     rcases h with h | h | h
     · exact .inl (.inl (.inl h))
     · exact .inl (.inr h)
     · exact .inr h
    have HCI := zz (((HCI.out.wider hz2).grown hg7 hx2).wider (fun b _ h => hy2 b h)); have HRI := zz (((HRI.out.wider hz2).grown hg7 hx2).wider (fun b _ h => hy2 b h)); have HVN := zz (((HVN.out.wider hz2).grown hg7 hx2).wider (fun b _ h => hy2 b h))
    have HRX := zz (show ∀ b, (Value.slice RA (goods y.bad 4).length RC).ownBlock = some b → ¬ WX gc A5 (i + 1) C5 O7 D7 b from fun b e hx => HRX.out b e (hz2 b (HRO.out.lt b e).2 (hy2 b hx)))
    have HOC5 := zz (HOC5.out.kept hg7 (own_disj HOC5.out HOO.out (by decide))); have HRO := zz (HRO.out.kept hg7 (own_disj HRO.out HOO.out (by decide))); have BC := zz (BC.out.grown hg7 (fun e => own_ne_blk HOO.out BC.out (by decide) e.symm)); have HBW := zz (HBW.out.grown hg7 HBW.out.size (fun g e => by have h0 := (HOO.out.lt g e).1; have h1 := HGT.out; have h2 := HGC2.out; omega)); have HOO7 := zz hown7
    have HOL := zz (show os.length = i * 1 from HOO.out.1)
    clear hown7 hg7 hat7 hz2 hx2 hy2 HGS HCG HOO; refine wpList_wanted (by rfl) (fun K hK => ?_); go_simp; refine hK _ _ ?_; clear hK K; (try simp only [Rg.lp]); refine wpList_wanted (by rfl) (fun K hK => ?_); go_simp; refine hK _ _ ?_; clear hK K; (try simp only [Rg.lp]); go_wp2_with fail; obtain ⟨hra, hrb⟩ := own_cap HRO.out
    have hrs : repS t0 t1 t2 t3 ys i = (reps (runS t0 t1 t2 t3 ys i) y 4, (goods y.bad 4).length) := by unfold repS; rw [HYE.out]
    refine ⟨⟨i + 1, VA2, VC2, A5, C5, O7, D7, cs ++ RN.toList, os ++ [.slice RA (goods y.bad 4).length RC], by omega, by go_num, rfl, rfl, by rw [HRN.out]; exact BC.out, HVN.out, HOC5.out, HCI.out.snoc HCL.out (by rw [← HRN.out]) HVN.out, HOO7.out, ?_, HNC5.out, HBW.out⟩, by simp [intOf]; omega⟩; have h9 := RepIn.snoc (RA := RA) (RC := RC) HRI.out (by have := HOL.out; omega) hra (by rw [hrs]; exact hrb) (by rw [hrs]; exact Rd.of_own HRO.out) (fun hn a e => HRX.out _ (own_block_of (by rw [hrs] at hn; exact hn) HRO.out e)); rw [hrs] at h9; exact h9
  ·
   obtain rfl : i = ys.length := by omega
   have hd1 : decide ((ys.length : Int) < (ys.length : Int)) = false := decide_eq_false (by omega); go_wp2_with fail; obtain rfl := HGT.out; refine bodyPost_ret (v := .tuple #[.slice CA ys.length CC, .slice OA ys.length OC, .bool true]) (by simp [results, Try.results10, go_sem]) rfl ?_; refine ⟨CA, CC, OA, OC, cs, os, rfl, own_weaken HOC.out (by rw [HGT.out]; exact HGC2.out), HCI.out.wider (fun _ _ h => h.elim), own_weaken HOO.out (by rw [HGT.out]; exact HGC2.out), HRI.out.wider (fun _ _ h => h.elim), HBW.out⟩
end Cf
end Go.Proofs.Ytobigbnmbnhikaa
