/- Contracts: sum.table, sum.More, the reference's More, and a slice of bytes handed on in memory of its own. -/
import Derived.Test.YtjfllpmiajkenaaOpen
import Derived.Test.YtjfllpmiajkenaaSumLaw
import Derived.WalkSpells
import Derived.WalkLawsBesides
namespace Go.Proofs.Ytjfllpmiajkenaa.Sm
open Go.ChangeShapes Go.WideShapes Go.ChangeAt Go.RowKit Go.Proofs.Ytjfllpmiajkenaa.Mem Go.Proofs.Ytjfllpmiajkenaa.SumLaw
set_option linter.unusedVariables false

/-- bytes, as cells -/
def bytesV (bs : List Nat) : List Value := bs.map fun (x : Nat) => Value.int .u8 (x : Int)
theorem bytesV_at (bs : List Nat) (k : Nat) (hk : k < bs.length) : (bytesV bs)[k]? = some (.int .u8 (bs[k] : Int)) := by
  simp [bytesV, hk]

theorem bytes_of : ∀ (zs : List Int), (∀ z ∈ zs, (Lit.int .u8 z).wf = true) → ∃ bs : List Nat, zs.map (Value.int .u8) = bytesV bs ∧ bs.length = zs.length ∧ ∀ x ∈ bs, x < 256
  | [], _ => ⟨[], rfl, rfl, by simp⟩
  | z :: zs, h => by
    obtain ⟨bs, h1, h2, h3⟩ := bytes_of zs (fun y hy => h y (List.mem_cons_of_mem _ hy))
    have hz := Op.wf_u8 (h z List.mem_cons_self)
    refine ⟨z.toNat :: bs, ?_, by simp [h2], ?_⟩
    · have e : ((z.toNat : Nat) : Int) = z := Int.toNat_of_nonneg hz.1
      simp only [bytesV, List.map_cons, e]
      exact congrArg _ h1
    · intro x hx
      cases List.mem_cons.1 hx with
      | inl e => subst e; omega
      | inr e => exact h3 x e


set_option maxRecDepth 100000 in
theorem openBytes {H : Type} {enc : TypeId × Value → H} {W : World} {base : Nat} {v : Value} {d : DataW H} {ps : List MemPlace} (hv : Value.okWide Try.prog W .any base 54 v)
    (h : DataW.Trod enc Try.prog W 0 (fun _ => true) true 54 v d ps) (hl : Op.Light Try.prog 54 d) :
    ∃ (A : Option Addr) (c : Nat) (bs : List Nat), v = .slice A bs.length c ∧ bs.length ≤ c ∧ c ≤ 140737488351232 ∧ (A = none → c = 0) ∧ Rd W W.heap.size 1 A bs.length (bytesV bs) ∧ ∀ x ∈ bs, x < 256 := by
  obtain ⟨a0, len, cap, rfl⟩ := okWide_slice Try.underlying54 hv
  obtain ⟨n, hn⟩ := h
  obtain ⟨A, c, zs, e, h1, h2, h3, h4, h5, h6⟩ := Op.Leaf.ints (enc := enc) (held := true) (base := 0) (spare := fun _ => true) (w := W) (v := .slice a0 len cap) Try.underlying54 Try.underlying5 (by kernel_rfl) (fun _ => rfl) ⟨n, _, hn, hl⟩
  rw [show Try.prog.bytesOf 5 = 1 from by kernel_rfl] at h3
  obtain ⟨bs, g1, g2, g3⟩ := bytes_of zs h6
  rw [g1] at h5
  rw [e]
  refine ⟨A, c, bs, by rw [g2], by omega, ?_, h4, by rw [g2]; exact h5, g3⟩
  have : reachBytes = 140737488351232 := by decide
  omega

/-- the first k numbers of the table, noughts behind them -/
def tabArr (k : Nat) : Array Value := ((List.range 256).map fun i => Value.int .u32 (if i < k then (tab i : Int) else 0)).toArray
theorem tabArr_zero : tabArr 0 = Try.zeroCells149 := by kernel_rfl
theorem tabArr_size (k : Nat) : (tabArr k).size = 256 := by simp [tabArr]
theorem tabArr_at (k i : Nat) (hi : i < 256) : (tabArr k)[i]? = some (.int .u32 (if i < k then (tab i : Int) else 0)) := by
  simp [tabArr, hi]
theorem tabArr_set (k : Nat) (hk : k < 256) : (tabArr k).setIfInBounds k (.int .u32 (tab k : Int)) = tabArr (k + 1) := by
  apply Array.ext_getElem?
  intro i
  rw [Array.getElem?_setIfInBounds, tabArr_size]
  by_cases hi : i < 256
  · rw [tabArr_at _ i hi, tabArr_at _ i hi]
    by_cases e : k = i
    · subst e
      simp [hi]
    · rw [if_neg e]
      by_cases h1 : i < k
      · rw [if_pos h1, if_pos (by omega)]
      · rw [if_neg h1, if_neg (by omega)]
  · rw [if_neg (by omega), Array.getElem?_eq_none (by rw [tabArr_size]; omega), Array.getElem?_eq_none (by rw [tabArr_size]; omega)]

theorem tabArr_one {k : Nat} : (tabArr k).all (·.oneCell') = true := by
  rw [Array.all_eq_true_iff_forall_mem]
  intro v hv
  simp only [tabArr, List.mem_toArray, List.mem_map] at hv
  obtain ⟨i, _, rfl⟩ := hv
  rfl
theorem and1 (c : Nat) (h : c < 4294967296) : bits .and .u32 (c : Int) 1 = (c : Int) % 2 := by
  have := u32_and_nat c 1 h (by omega)
  rw [nat_mask1] at this
  simpa using this
theorem xorp (c : Nat) (h : c < 4294967296) : bits .xor .u32 ((c : Int) / 2) 3988292384 = ((c / 2 ^^^ 3988292384 : Nat) : Int) := by
  have := u32_xor_nat (c / 2) 3988292384 (by omega) (by omega)
  simpa using this

def Table (w w' : World) (e : Ending) : Prop := e = .returned (.agg (tabArr 256)) ∧ Below w.heap.size w w'

set_option maxRecDepth 100000 in
theorem table_any (w : World) :
    Calls Try.prog 111 #[] w fun e w' => Table w w' e := by
  have b0 : Blk ((w.alloc (.cells Try.zeroCells149 149)).alloc (.cells Try.zeroCells149 149)) w.heap.size 149 (tabArr 0) := by rw [tabArr_zero]; exact (Blk.new rfl).alloc _
  have b1 : Blk ((w.alloc (.cells Try.zeroCells149 149)).alloc (.cells Try.zeroCells149 149)) (w.heap.size + 1) 149 (tabArr 0) := by rw [tabArr_zero]; exact Blk.new (by simp)
  have hb : Below w.heap.size w ((w.alloc (.cells Try.zeroCells149 149)).alloc (.cells Try.zeroCells149 149)) := ((Below.refl _ _).alloc (Nat.le_refl _) _).alloc (by simp) _
  go_enter Try.func111, Try.ntmps111
  go_wp2_with fail
  go_loopw [4] (fun i wr => ∃ k : Nat, k ≤ 256 ∧ i = .int .i64 k ∧ Blk wr w.heap.size 149 (tabArr 0) ∧ Blk wr (w.heap.size + 1) 149 (tabArr k) ∧ Below w.heap.size w wr) (fun i _ => 256 - (intOf i).toNat)
  case atStart => exact ⟨0, by omega, rfl, b0, b1, hb⟩
  case round =>
    clear b0 b1 hb
    obtain ⟨k, hk, rfl, b0, b1, hb⟩ := hrel
    by_cases hlt : k < 256
    · go_wp2_with fail
      go_loop [3, 9] (fun c j => ∃ n : Nat, n ≤ 8 ∧ j = .int .i64 n ∧ c = .int .u32 (steps n k : Nat)) (fun _ j => 8 - (intOf j).toNat)
      case atStart => exact ⟨0, by omega, rfl, rfl⟩
      case round =>
        obtain ⟨n, hn, rfl, rfl⟩ := hrel
        have hc := steps_lt n k (by omega)
        by_cases hln : n < 8
        · have HS := Lib.hid (show steps (n + 1) k = step1 (steps n k) from rfl)
          generalize steps n k = c at hc HS ⊢
          have h1 := and1 c hc
          have h2 := xorp c hc
          by_cases hodd : (c : Int) % 2 = 1
          · have HT := Lib.hid (show step1 c = (c / 2) ^^^ 3988292384 from by unfold step1; rw [if_pos (by omega)])
            have hodd' : ((c : Int) % 2 == 1) = true := by simpa using hodd
            clear hodd
            go_wp2_with fail
            exact ⟨⟨n + 1, by omega, by go_num, by rw [HS.out, HT.out]⟩, by simp [intOf]; omega⟩
          · have HT := Lib.hid (show step1 c = c / 2 from by unfold step1; rw [if_neg (by omega)])
            have hodd' : ((c : Int) % 2 == 1) = false := by simpa using hodd
            clear hodd
            go_wp2_with fail
            exact ⟨⟨n + 1, by omega, by go_num, by rw [HS.out, HT.out]; go_num⟩, by simp [intOf]; omega⟩
        · obtain rfl : n = 8 := by omega
          have c1 := b1.cell k
          have f1 := b1.thaw k
          rw [tabArr_at _ _ hlt] at c1
          go_wp2_with fail
          exact ⟨⟨k + 1, by omega, by go_num, b0.other (by simp) _, by have := b1.set k (.int .u32 (steps 8 k : Nat)); rwa [show steps 8 k = tab k from rfl, tabArr_set k hlt] at this, hb.setCell (by simp) _⟩, by simp [intOf]; omega⟩
    · obtain rfl : k = 256 := by omega
      clear hlt
      go_wp2_with (first
        | (refine wpList_load_row rfl 149 _ rfl (w.heap.size + 1) rfl 149 (tabArr 256) (0, 0) _ b1 Try.underlying149 rfl (by rw [tabArr_size]; kernel_rfl) ?_)
        | (refine wpList_store_row rfl 149 _ _ rfl w.heap.size (tabArr 256) rfl rfl 149 (tabArr 0) b0 (by rw [tabArr_size]; kernel_rfl) (by simp [tabArr_size]) tabArr_one ?_))
      refine ret_row rfl rfl (b0.setRow _) Try.underlying149 rfl (by rw [tabArr_size]; kernel_rfl) rfl ⟨rfl, below_setRow hb (Nat.le_refl _) _⟩

theorem not32 (a : Int) (h0 : 0 ≤ a) (h1 : a < 4294967296) : bits .xor .u32 IntKind.u32.max a = 4294967295 - a := by
  obtain ⟨n, rfl⟩ := Int.eq_ofNat_of_zero_le h0
  have e : IntKind.u32.max = ((4294967295 : Nat) : Int) := by decide
  rw [e, u32_xor_nat 4294967295 n (by omega) (by omega)]
  have e2 : 4294967295 ^^^ n = 2 ^ 32 - (n + 1) := by
    apply Nat.eq_of_testBit_eq
    intro i
    rw [Nat.testBit_two_pow_sub_succ (by omega), Nat.testBit_xor, show (4294967295 : Nat) = 2 ^ 32 - (0 + 1) from rfl, Nat.testBit_two_pow_sub_succ (by omega)]
    by_cases hi : i < 32
    · simp [hi]
    · have : n.testBit i = false := Nat.testBit_lt_two_pow (Nat.lt_of_lt_of_le (by omega : n < 2 ^ 32) (Nat.pow_le_pow_right (by omega) (by omega)))
      simp [hi, this]
  rw [e2]
  omega

theorem idx8 (c x : Nat) (hx : x < 256) : bits .xor .u8 ((c : Int) % 256) (x : Int) = ((c % 256 ^^^ x : Nat) : Int) := by
  have := u8_xor_nat (c % 256) x (by omega) hx
  simpa using this
theorem xor32 (t c : Nat) (ht : t < 4294967296) (hc : c < 4294967296) : bits .xor .u32 (t : Int) ((c : Int) / 256) = ((t ^^^ c / 256 : Nat) : Int) := by
  have := u32_xor_nat t (c / 256) ht (by omega)
  simpa using this

set_option maxRecDepth 100000 in
theorem more_any (s : Int) (A : Option Addr) (c : Nat) (bs : List Nat) (B : Nat) (w : World) (hB : B ≤ w.heap.size) (hs : -9223372036854775808 ≤ s ∧ s ≤ 9223372036854775807) (hl : bs.length ≤ 9223372036854775807) (hbs : ∀ x ∈ bs, x < 256) (hr : Rd w B 1 A bs.length (bytesV bs)) :
    Calls Try.prog 101 #[.int .i64 s, .slice A bs.length c] w fun e w' => e = .returned (.int .i64 (more s bs)) ∧ Below w.heap.size w w' := by
  have Hbs := Lib.hid hbs
  clear hbs
  go_enter Try.func101, Try.ntmps101
  go_wp2_with fail
  refine (table_any _).mono ?_
  rintro e w1 ⟨rfl, hb1⟩
  have hs1 := hb1.size
  have bz : Blk (w1.alloc (.cells Try.zeroCells149 149)) w1.heap.size 149 (tabArr 0) := by rw [tabArr_zero]; exact Blk.new rfl
  have bT := bz.setRow (tabArr 256)
  have hr1 := (hr.below (hb1.mono hB)).alloc (by omega) (.cells Try.zeroCells149 149)
  have hbz : Below w.heap.size w (w1.alloc (.cells Try.zeroCells149 149)) := hb1.alloc hb1.size _
  have hbT := below_setRow (g := w1.heap.size) hbz hb1.size (tabArr 256)
  have hrT := hr1.keep (w' := (w1.alloc (.cells Try.zeroCells149 149)).setRow w1.heap.size (tabArr 256)) (fun b o hb => World.cell?_of_block (Go.setRow_other _ _ _ _ (by show b ≠ w1.heap.size; omega)))
  go_wp2_with (refine wpList_store_row rfl 149 _ _ rfl w1.heap.size (tabArr 256) rfl rfl 149 (tabArr 0) bz (by rw [tabArr_size]; kernel_rfl) (by simp [tabArr_size]) tabArr_one ?_)
  clear bz hr1 hbz
  generalize (w1.alloc (.cells Try.zeroCells149 149)).setRow w1.heap.size (tabArr 256) = wT at bT hbT hrT ⊢
  have Hend := Lib.hid (show more s bs = 4294967295 - (over byteT (4294967295 - (s % 4294967296).toNat) (bs.take bs.length) : Nat) by rw [List.take_of_length_le (Nat.le_refl _)]; rfl)
  have hc0 : 4294967295 - (s % 4294967296).toNat < 4294967296 := by omega
  have hs0 : 0 ≤ s % 4294967296 ∧ s % 4294967296 < 4294967296 := by omega
  generalize hcc : 4294967295 - (s % 4294967296).toNat = c0 at Hend hc0
  have Hc0 := Lib.hid (show (c0 : Int) = 4294967295 - s % 4294967296 by omega)
  clear hcc
  have hn0 := not32 (s % 4294967296) hs0.1 hs0.2
  go_loop [6, 15] (fun cc i => ∃ k : Nat, k ≤ bs.length ∧ i = .int .i64 k ∧ cc = .int .u32 (over byteT c0 (bs.take k) : Nat)) (fun _ i => bs.length - (intOf i).toNat)
  case atStart => exact ⟨0, by omega, rfl, by rw [hn0, ← Hc0.out]; rfl⟩
  case round =>
    clear hn0
    obtain ⟨k, hk, rfl, rfl⟩ := hrel
    have hclt := over_lt (bs.take k) c0 hc0 (fun x hx => Hbs.out x (List.mem_of_mem_take hx))
    by_cases hlt : k < bs.length
    · have HS := Lib.hid (over_take byteT c0 bs k hlt)
      have hx := Hbs.out _ (List.getElem_mem hlt)
      obtain ⟨b, o, u, rfl, hbB, hu, hcell⟩ := hrT.at hlt
      rw [bytesV_at bs k hlt] at hu
      injection hu with hu
      subst hu
      generalize over byteT c0 (bs.take k) = d at hclt HS ⊢
      generalize bs[k] = x at hx HS hcell
      have h1 := idx8 d x hx
      have hi : d % 256 ^^^ x < 256 := Nat.xor_lt_two_pow (n := 8) (by omega) (by omega)
      have HT := Lib.hid (show byteT d x = tab (d % 256 ^^^ x) ^^^ (d / 256) from rfl)
      generalize d % 256 ^^^ x = i at h1 hi HT
      have hcT := bT.cell i
      rw [tabArr_at 256 i hi, if_pos hi] at hcT
      have htl := steps_lt 8 i (by omega)
      have h2 := xor32 (tab i) d htl hclt
      change tab i < 4294967296 at htl
      generalize tab i = t at hcT h2 htl HT
      go_wp2_with fail
      exact ⟨⟨k + 1, by omega, by go_num, by rw [HS.out, HT.out]⟩, by simp [intOf]; omega⟩
    · obtain rfl : k = bs.length := by omega
      generalize over byteT c0 (bs.take bs.length) = d at hclt Hend ⊢
      have hn1 := not32 (d : Int) (by omega) (by omega)
      go_wp2_with fail
      go_ret
      exact ⟨ret_int (by rw [Hend.out]), hbT⟩

theorem elemBytes : Elem Try.prog 54 5 (.int .u8 0) 1 1 := ⟨Try.underlying54, by kernel_rfl, rfl, by omega⟩
theorem bytesV_one (bs : List Nat) : ∀ u ∈ bytesV bs, u.oneCell' = true := fun u hu => by
  obtain ⟨z, _, rfl⟩ := List.mem_map.1 hu
  rfl

def OwnBytes (w w' : World) (bs : List Nat) (e : Ending) : Prop :=
  ∃ A c, e = .returned (.slice A bs.length c) ∧ w'.ownsRow w.heap.size 5 1 (.slice A bs.length c) bs.length (bytesV bs) ∧ Below w.heap.size w w'

theorem bytes_any (A : Option Addr) (c : Nat) (bs : List Nat) (B : Nat) (w : World) (hB : B ≤ w.heap.size) (hA : A = none → c = 0) (hnc : bs.length ≤ c) (hc : bs.length ≤ 140737488355328) (hr : Rd w B 1 A bs.length (bytesV bs)) :
    Calls Try.prog 23 #[.slice A bs.length c] w fun e w' => OwnBytes w w' bs e := by
  go_enter Try.func23, Try.ntmps23
  go_wp2_with (at_builtin; refine wpList_append_rd _ rfl _ _ _ rfl (base := w.heap.size) elemBytes rfl (World.ownsRow_nil _ _ _ _) rfl (fun h => ⟨by have := hA h; omega, hA h⟩) (by exact hr) (bytesV_one bs) (by unfold maxLen; omega) (by omega) (Nat.le_refl _) ?_)
  intro A' c' w1 hA' hown hg

  go_wp2
  go_ret
  exact ⟨A', c', rfl, hown, (Below.refl _ _).grown hg (Nat.le_refl _) (by simp [Value.ownBlock])⟩
end Go.Proofs.Ytjfllpmiajkenaa.Sm
