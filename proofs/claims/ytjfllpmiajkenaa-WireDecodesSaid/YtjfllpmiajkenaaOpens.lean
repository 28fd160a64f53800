/- Contracts: sum.Open and the reference's. -/
import Derived.Test.YtjfllpmiajkenaaBytesR
import Derived.Test.YtjfllpmiajkenaaStr
import Derived.Test.YtjfllpmiajkenaaRegH
import Derived.Deep.RegionLaw
import Derived.Deep.RegionHeld3
import Derived.IntWalk
namespace Go.Proofs.Ytjfllpmiajkenaa.Sm
open Go.ChangeShapes Go.WideShapes Go.ChangeAt Go.RowKit Go.Proofs.Ytjfllpmiajkenaa.Mem Go.Proofs.Ytjfllpmiajkenaa.SumLaw
set_option linter.unusedVariables false
set_option linter.unusedSimpArgs false

theorem seal_small {l : List Nat} (h : ∀ x ∈ l, x < 256) : ∀ x ∈ sealed l, x < 256 := fun x hx => by
  unfold sealed at hx
  rcases List.mem_append.1 hx with h1 | h1
  · exact h x h1
  · rw [tailTo_four] at h1
    simp at h1
    omega
theorem strB_list {a b : List Nat} (ha : ∀ x ∈ a, x < 256) (hb : ∀ x ∈ b, x < 256) (h : ((strB a).toList == (strB b).toList) = true) : a = b := by
  have h1 : (strB a).toList = (strB b).toList := by simpa using h
  unfold strB at h1
  rw [Lib.strOfNums_toList, Lib.strOfNums_toList] at h1
  refine strB_inj ha hb (ByteArray.ext (Array.toList_inj.1 ?_))
  exact h1
/-- P5.2 -/
def okB (bs : List Nat) : Bool := decide (4 ≤ bs.length) && decide (sealed (bs.take (bs.length - 4)) = bs)
def OpenAt (w w' : World) (bs : List Nat) (e : Ending) : Prop :=
  (okB bs = true ∧ ∃ A c, e = .returned (.tuple #[.slice A (bs.length - 4) c, .bool true]) ∧ w'.ownsRow w.heap.size 5 1 (.slice A (bs.length - 4) c) (bs.length - 4) (bytesV (bs.take (bs.length - 4))) ∧ Below w.heap.size w w') ∨
  (okB bs = false ∧ e = .returned (.tuple #[.slice none 0 0, .bool false]) ∧ Below w.heap.size w w')

def hor (t : Nat → Nat) : Nat → Nat
  | 0 => 0
  | k + 1 => hor t k * 256 + t (3 - k)
theorem i64_or_nat (a b : Nat) (ha : a < 9223372036854775808) (hb : b < 9223372036854775808) : bits .or .i64 (a : Int) (b : Int) = ((a ||| b : Nat) : Int) := by
  have hx : a ||| b < 2 ^ 63 := Nat.or_lt_two_pow (by omega) (by omega)
  show IntKind.i64.wrap ((BitVec.ofInt 64 (a : Int) ||| BitVec.ofInt 64 (b : Int)).toNat : Int) = _
  rw [BitVec.toNat_or, ofInt_u64 a (by omega), ofInt_u64 b (by omega), IntKind.wrap_i64]
  omega
theorem or_byte (q x : Nat) (hq : q < 16777216) (hx : x < 256) : bits .or .i64 ((q : Int) * 256) (x : Int) = ((q * 256 + x : Nat) : Int) := by
  have h := i64_or_nat (q * 256) x (by omega) (by omega)
  rw [show ((q * 256 : Nat) : Int) = (q : Int) * 256 by omega] at h
  rw [h]
  congr 1
  have := Nat.two_pow_add_eq_or_of_lt (i := 8) (b := x) hx q
  rw [show (2 : Nat) ^ 8 = 256 from rfl] at this
  rw [Nat.mul_comm q 256]
  exact this.symm
theorem hor_four (t : Nat → Nat) : hor t 4 = ((t 3 * 256 + t 2) * 256 + t 1) * 256 + t 0 := by simp [hor]

theorem split4 (bs : List Nat) (n : Nat) (h : bs.length = n + 4) : bs = bs.take n ++ [bs.getD n 0, bs.getD (n + 1) 0, bs.getD (n + 2) 0, bs.getD (n + 3) 0] := by
  conv => lhs; rw [← List.take_append_drop n bs]
  congr 1
  apply List.ext_getElem?
  intro i
  rw [List.getElem?_drop]
  have g : ∀ j, n + j < bs.length → bs[n + j]? = some (bs.getD (n + j) 0) := fun j hj => by simp [List.getD, hj]
  match i with
  | 0 => rw [g 0 (by omega)]; rfl
  | 1 => rw [g 1 (by omega)]; rfl
  | 2 => rw [g 2 (by omega)]; rfl
  | 3 => rw [g 3 (by omega)]; rfl
  | i + 4 => rw [List.getElem?_eq_none (by omega)]; rfl

theorem okB_is (bs : List Nat) (n s : Nat) (h : bs.length = n + 4) (hb : ∀ x ∈ bs, x < 256) (hs : more 0 (bs.take n) = (s : Int)) (hs2 : s < 4294967296) :
    okB bs = decide (s = hor (fun i => bs.getD (n + i) 0) 4) := by
  have t : ∀ i, i < 4 → bs.getD (n + i) 0 < 256 := fun i hi => by
    have e : bs.getD (n + i) 0 = bs[n + i]'(by omega) := by simp [List.getD, show n + i < bs.length by omega]
    rw [e]; exact hb _ (List.getElem_mem _)
  have t0 := t 0 (by omega); have t1 := t 1 (by omega); have t2 := t 2 (by omega); have t3 := t 3 (by omega)
  have e4 : bs.length - 4 = n := by omega
  have h4 : 4 ≤ bs.length := by omega
  unfold okB
  rw [e4, decide_eq_true h4, Bool.true_and, hor_four]
  congr 1
  rw [eq_iff_iff]
  have hsp := split4 bs n h
  unfold sealed
  rw [hs, Int.toNat_natCast, tailTo_four]
  simp only [Nat.add_zero] at t0
  constructor
  · intro e
    have e' := List.append_cancel_left (e.trans hsp)
    simp only [List.cons.injEq, and_true] at e'
    obtain ⟨a, b, c, d⟩ := e'
    simp only [Nat.add_zero]
    omega
  · intro e
    refine Eq.trans ?_ hsp.symm
    congr 1
    simp only [Nat.add_zero] at e
    have a : s % 256 = bs.getD n 0 := by omega
    have b : s / 256 % 256 = bs.getD (n + 1) 0 := by omega
    have c : s / 65536 % 256 = bs.getD (n + 2) 0 := by omega
    have d : s / 16777216 % 256 = bs.getD (n + 3) 0 := by omega
    rw [a, b, c, d]

theorem take_cells {w : World} {B : Nat} {A : Option Addr} {n m : Nat} {bs : List Nat} (h : Rd w B 1 A m (bytesV bs)) (hn : n ≤ m) (hm : m = bs.length) : Rd w B 1 A n (bytesV (bs.take n)) := by
  subst hm
  refine ⟨by simp [bytesV]; omega, fun h0 => ?_⟩
  obtain ⟨b, o, e, hb, hc⟩ := h.2 (by omega)
  refine ⟨b, o, e, hb, fun j u hu => hc j u ?_⟩
  simp only [bytesV, List.map_take] at hu
  rw [List.getElem?_take] at hu
  split at hu
  · exact hu
  · cases hu

theorem open_any (A : Option Addr) (c : Nat) (bs : List Nat) (B : Nat) (w : World) (hB : B ≤ w.heap.size) (hA : A = none → c = 0) (hnc : bs.length ≤ c) (hcm : c ≤ maxLen) (hc : bs.length ≤ 140737488351232) (hbs : ∀ x ∈ bs, x < 256) (hr : Rd w B 1 A bs.length (bytesV bs)) :
    Calls Try.prog 60 #[.slice A bs.length c] w fun e w' => OpenAt w w' bs e := by
  have HS := Lib.hid hbs
  have HR := Lib.hid hr
  clear hbs hr
  by_cases h4 : bs.length < 4
  · have HO := Lib.hid (show okB bs = false by unfold okB; rw [decide_eq_false (by omega)]; rfl)
    go_enter Try.func60, Try.ntmps60
    go_wp2_with fail
    go_ret2
    exact .inr ⟨HO.out, rfl, Below.refl _ _⟩
  · obtain ⟨n, hn⟩ : ∃ n, bs.length = n + 4 := ⟨bs.length - 4, by omega⟩
    obtain ⟨b, o, rfl, hbB, hcell⟩ := HR.out.2 (by omega)
    have t : ∀ i, i < 4 → bs.getD (n + i) 0 < 256 := fun i hi => by
      have e : bs.getD (n + i) 0 = bs[n + i]'(by omega) := by simp [List.getD, show n + i < bs.length by omega]
      rw [e]; exact HS.out _ (List.getElem_mem _)
    have hx : ∀ i, i < 4 → w.cell? ⟨b, o + (n + i), none⟩ = some (.int .u8 ((bs.getD (n + i) 0 : Nat) : Int)) := fun i hi => by
      rw [hcell _ _ (bytesV_at bs (n + i) (by omega))]
      simp [List.getD, show n + i < bs.length by omega]
    have hx0 := hx 0 (by omega); have hx1 := hx 1 (by omega); have hx2 := hx 2 (by omega); have hx3 := hx 3 (by omega)
    have t0 := t 0 (by omega); have t1 := t 1 (by omega); have t2 := t 2 (by omega); have t3 := t 3 (by omega)
    clear hx t hcell
    have HK := Lib.hid (take_cells HR.out (show n ≤ bs.length by omega) rfl)
    obtain ⟨s, hs, hs2⟩ := more_nat (bs.take n) (fun x hx => HS.out x (List.mem_of_mem_take hx))
    have HM := Lib.hid hs
    have HO := Lib.hid (okB_is bs n s hn HS.out hs hs2)
    clear hs
    generalize hT : (fun i => bs.getD (n + i) 0) = T at HO
    have e0 : bs.getD (n + 0) 0 = T 0 := by rw [← hT]
    have e1 : bs.getD (n + 1) 0 = T 1 := by rw [← hT]
    have e2 : bs.getD (n + 2) 0 = T 2 := by rw [← hT]
    have e3 : bs.getD (n + 3) 0 = T 3 := by rw [← hT]
    rw [e0] at t0 hx0; rw [e1] at t1 hx1; rw [e2] at t2 hx2; rw [e3] at t3 hx3
    clear e0 e1 e2 e3 hT
    rw [Nat.add_zero] at hx0
    have hlen : (bs.take n).length = n := by simp; omega
    have SC := sum_any (some ⟨b, o, none⟩) c (bs.take n) B w hB (by omega) (fun x hx => HS.out x (List.mem_of_mem_take hx)) (by rw [hlen]; exact HK.out)
    rw [hlen, HM.out] at SC
    have HL := Lib.hid hlen
    clear hlen
    unfold maxLen at hcm
    rw [hn] at hnc hc h4 ⊢
    go_enter Try.func60, Try.ntmps60
    go_wp2_with fail
    go_loop [5, 6] (fun v i => ∃ k : Nat, k ≤ 4 ∧ i = .int .i64 (3 - (k : Int)) ∧ v = .int .i64 ((hor T k : Nat) : Int)) (fun _ i => (intOf i + 1).toNat)
    case atStart => exact ⟨0, by omega, rfl, rfl⟩
    case round =>
      obtain ⟨k, hk, rfl, rfl⟩ := hrel
      obtain rfl | rfl | rfl | rfl | rfl : k = 0 ∨ k = 1 ∨ k = 2 ∨ k = 3 ∨ k = 4 := by omega
      · have HH := Lib.hid (show hor T 1 = hor T 0 * 256 + T 3 from rfl)
        have hq : hor T 0 < 16777216 := by simp [hor]
        generalize hor T 0 = q at HH hq ⊢
        have ho := or_byte q (T 3) hq t3
        have HV := Lib.hid ho
        clear ho
        go_wp2_with fail
        refine ⟨⟨1, by omega, by rfl, by rw [HH.out]; exact congrArg _ HV.out⟩, by simp [intOf]⟩
      · have HH := Lib.hid (show hor T 2 = hor T 1 * 256 + T 2 from rfl)
        have hq : hor T 1 < 16777216 := by simp [hor]; omega
        generalize hor T 1 = q at HH hq ⊢
        have ho := or_byte q (T 2) hq t2
        have HV := Lib.hid ho
        clear ho
        go_wp2_with fail
        refine ⟨⟨2, by omega, by rfl, by rw [HH.out]; exact congrArg _ HV.out⟩, by simp [intOf]⟩
      · have HH := Lib.hid (show hor T 3 = hor T 2 * 256 + T 1 from rfl)
        have hq : hor T 2 < 16777216 := by simp [hor]; omega
        generalize hor T 2 = q at HH hq ⊢
        have ho := or_byte q (T 1) hq t1
        have HV := Lib.hid ho
        clear ho
        go_wp2_with fail
        refine ⟨⟨3, by omega, by rfl, by rw [HH.out]; exact congrArg _ HV.out⟩, by simp [intOf]⟩
      · have HH := Lib.hid (show hor T 4 = hor T 3 * 256 + T 0 from rfl)
        have hq : hor T 3 < 16777216 := by simp [hor]; omega
        generalize hor T 3 = q at HH hq ⊢
        have ho := or_byte q (T 0) hq t0
        have HV := Lib.hid ho
        clear ho
        go_wp2_with fail
        refine ⟨⟨4, by omega, by rfl, by rw [HH.out]; exact congrArg _ HV.out⟩, by simp [intOf]⟩
      · generalize hor T 4 = q at HO ⊢
        have HO2 : Hid (okB bs = decide (s = q)) := HO
        by_cases hsq : s = q
        · have HO3 : Hid (okB bs = true) := Lib.hid (HO2.out.trans (by simp [hsq]))
          have hne : ((q : Int) != (s : Int)) = false := by simp [hsq]
          have hne2 : ((q : Int) == (s : Int)) = true := by simp [hsq]
          subst hsq
          go_wp2_with (first
            | (go_at_call 89; refine SC.mono ?_; rintro e w1 ⟨rfl, hb1⟩)
            | (at_builtin; refine wpList_append_rd _ rfl (.tmp 32) (.tmp 35) 54 rfl (base := w.heap.size) elemBytes rfl (World.ownsRow_made _ _ _ hb1.size (by unfold maxLen; omega) rfl) rfl (by simp) ((HK.out.below (hb1.mono hB)).alloc (Nat.le_trans hB hb1.size) _) (bytesV_one _) (by unfold maxLen; omega) (by omega) (Nat.le_trans hb1.size (by simp)) ?_; intro A2 c2 w2 hA2 hown2 hg2))
          simp only [List.nil_append, Nat.zero_add] at hown2
          have hb2 := Below.grown (hb1.alloc hb1.size _) hg2 (by have := hb1.size; simp; omega) (fun g e => by have e : some w1.heap.size = some g := e; injection e with e; have := hb1.size; omega)
          have HE := Lib.hid (show bs.length - 4 = n by omega)
          go_ret2
          exact .inl ⟨HO3.out, A2, c2, by rw [HE.out]; rfl, by rw [HE.out]; exact hown2, hb2⟩
        · have HO3 : Hid (okB bs = false) := Lib.hid (HO2.out.trans (by simp [hsq]))
          have hne : ((q : Int) != (s : Int)) = true := by simp; omega
          clear hsq
          go_wp2_with (first
            | (go_at_call 89; refine SC.mono ?_; rintro e w1 ⟨rfl, hb1⟩))
          go_ret2
          exact .inr ⟨HO3.out, rfl, hb1⟩

set_option maxRecDepth 100000 in
set_option maxHeartbeats 2000000 in
theorem refopen_any (A : Option Addr) (c : Nat) (bs : List Nat) (B : Nat) (w : World) (hB : B ≤ w.heap.size) (hA : A = none → c = 0) (hnc : bs.length ≤ c) (hcm : c ≤ maxLen) (hc : bs.length ≤ 140737488351232) (hbs : ∀ x ∈ bs, x < 256) (hr : Rd w B 1 A bs.length (bytesV bs)) :
    Calls Try.prog 64 #[.slice A bs.length c] w fun e w' => OpenAt w w' bs e := by
  have HS := Lib.hid hbs
  have HR := Lib.hid hr
  clear hbs hr
  by_cases h4 : bs.length < 4
  · have HO := Lib.hid (show okB bs = false by unfold okB; rw [decide_eq_false (by omega)]; rfl)
    have hd : decide ((bs.length : Int) < 4) = true := by simp; omega
    go_enter Try.func64, Try.ntmps64
    go_wp2_with fail
    go_quiet (fail)
    go_wp2_with fail
    go_ret2
    exact .inr ⟨HO.out, rfl, below_drewN (Below.refl _ _) _⟩
  · obtain ⟨n, hn⟩ : ∃ n, bs.length = n + 4 := ⟨bs.length - 4, by omega⟩
    have HK := Lib.hid (take_cells HR.out (show n ≤ bs.length by omega) rfl)
    have hlen : (bs.take n).length = n := by simp; omega
    have SC := fun w' (hb : Below w.heap.size w w') => refseal_any A c (bs.take n) B w' (Nat.le_trans hB hb.size) hA (by omega) (by omega) (fun x hx => HS.out x (List.mem_of_mem_take hx)) (by rw [hlen]; exact HK.out.below (hb.mono hB))
    rw [hlen] at SC
    have HE := Lib.hid (show bs.length - 4 = n by omega)
    have HO := Lib.hid (show okB bs = decide (sealed (bs.take n) = bs) by unfold okB; rw [decide_eq_true (by omega), HE.out]; rfl)
    obtain ⟨S1, hS1⟩ : ∃ S, strB bs = S := ⟨_, rfl⟩
    obtain ⟨S2, hS2⟩ : ∃ S, strB (sealed (bs.take n)) = S := ⟨_, rfl⟩
    have HC := Lib.hid (fun w' (hb : Below w.heap.size w w') => conv_rd (c := c) (fun e => by have := hA e; omega) hn.symm (hn ▸ HR.out.below (hb.mono hB)))
    have HC2 := fun {w' : World} {base : Nat} {A1 : Option Addr} {c1 : Nat} (h : w'.ownsRow base 5 1 (.slice A1 (sealed (bs.take n)).length c1) (sealed (bs.take n)).length (bytesV (sealed (bs.take n)))) => conv_own rfl h
    rw [hS1] at HC
    rw [hS2] at HC2
    have hne : (okB bs = true ∧ S2 = S1) ∨ (okB bs = false ∧ (S2.toList == S1.toList) = false) := by
      by_cases h : sealed (bs.take n) = bs
      · exact .inl ⟨HO.out.trans (by simp [h]), by rw [← hS1, ← hS2, h]⟩
      · refine .inr ⟨HO.out.trans (by simp [h]), ?_⟩
        by_cases hb : (S2.toList == S1.toList) = true
        · exact absurd (strB_list (seal_small (fun x hx => HS.out x (List.mem_of_mem_take hx))) HS.out (by rw [hS1, hS2]; exact hb)) h
        · exact (Bool.not_eq_true _).mp hb
    clear hlen hS1 hS2 HO
    have hd : decide ((n : Int) + 4 < 4) = false := by simp; omega
    unfold maxLen at hcm
    rw [hn] at hnc hc h4 ⊢
    have hb0 : Below w.heap.size w w.drew := (Below.refl _ _).drew
    have kb := HC.out _ hb0
    have s1 : IntKind.i64.wrap (n : Int) = (n : Int) := IntWalk.i64_in (n : Int) (by omega)
    have s2 : IntKind.i64.wrap ((n : Int) + 4 - 4) = (n : Int) := by rw [Int.add_sub_cancel]; exact s1
    have s3 : (0 : Int) ≤ (n : Int) := by omega
    have s4 : (n : Int) ≤ (c : Int) := by omega
    have s5 : (n : Int).toNat = n := Int.toNat_natCast n
    clear h4
    rcases hne with ⟨ho, rfl⟩ | ⟨ho, hse⟩
    · have HO := Lib.hid ho
      clear ho
      go_enter Try.func64, Try.ntmps64
      go_wp2_with fail
      refine wp_region_noPanic ?_
      refine wp_region_held_drew (S := fun w' => (convert 54 9 (.slice A (n + 4) c)).run Try.prog w' = .ok (.string S2) w') (by kernel_rfl) kb (fun hHeld => ?_)
      refine wpAnyH_take (i := 0) (oi := { dst := some 4, op := Op.move (Operand.tmp 0), type := 54, pos := "links.go:42", after := #[], guard := none }) (v := ?_) rfl (by kernel_rfl) (by kernel_rfl) (by kernel_rfl) (fun _ _ _ h => h) (Or.inl ⟨by rfl, ?_⟩) (by assumption) ?_
      rotate_left 1
      · (intro w hSw; (try dsimp only at hSw); go_simp; (try with_reducible rfl))
      try simp only [Act.put, List.setIfInBounds_toArray, List.set_cons_zero, List.set_cons_succ]
      refine wpAnyH_take (i := 1) (oi := { dst := some 5, op := Op.call { callee := Callee.builtin Builtin.len, args := #[Operand.tmp 4], argTypes := #[54] }, type := 3, pos := "links.go:42", after := #[{ on := 0, ground := Ground.data }], guard := none }) (v := ?_) rfl (by kernel_rfl) (by kernel_rfl) (by kernel_rfl) (fun _ _ _ h => h) (Or.inl ⟨by rfl, ?_⟩) (by assumption) ?_
      rotate_left 1
      · (intro w hSw; (try dsimp only at hSw); go_simp; (try with_reducible rfl))
      try simp only [Act.put, List.setIfInBounds_toArray, List.set_cons_zero, List.set_cons_succ]
      refine wpAnyH_take (i := 2) (oi := { dst := some 6, op := Op.binOp BinOp.lss 3 (Operand.tmp 5) (Operand.const (Value.int IntKind.i64 4)) 3, type := 4, pos := "links.go:42", after := #[{ on := 1, ground := Ground.data }], guard := none }) (v := ?_) rfl (by kernel_rfl) (by kernel_rfl) (by kernel_rfl) (fun _ _ _ h => h) (Or.inl ⟨by rfl, ?_⟩) (by assumption) ?_
      rotate_left 1
      · (intro w hSw; (try dsimp only at hSw); go_simp; (try with_reducible rfl))
      try simp only [Act.put, List.setIfInBounds_toArray, List.set_cons_zero, List.set_cons_succ]
      refine wpAnyH_take (i := 3) (oi := { dst := some 7, op := Op.move (Operand.tmp 6), type := 4, pos := "links.go:42", after := #[{ on := 2, ground := Ground.data }], guard := none }) (v := ?_) rfl (by kernel_rfl) (by kernel_rfl) (by kernel_rfl) (fun _ _ _ h => h) (Or.inl ⟨by rfl, ?_⟩) (by assumption) ?_
      rotate_left 1
      · (intro w hSw; (try dsimp only at hSw); go_simp; (try with_reducible rfl))
      try simp only [Act.put, List.setIfInBounds_toArray, List.set_cons_zero, List.set_cons_succ]
      refine wpAnyH_take (i := 4) (oi := { dst := some 8, op := Op.move (Operand.tmp 0), type := 54, pos := "links.go:42", after := #[{ on := 3, ground := Ground.guard }], guard := some (3, false) }) (v := ?_) rfl (by kernel_rfl) (by kernel_rfl) (by kernel_rfl) (fun _ _ _ h => h) (Or.inl ⟨by rfl, ?_⟩) (by assumption) ?_
      rotate_left 1
      · (intro w hSw; (try dsimp only at hSw); go_simp; (try with_reducible rfl))
      try simp only [Act.put, List.setIfInBounds_toArray, List.set_cons_zero, List.set_cons_succ]
      refine wpAnyH_take (i := 5) (oi := { dst := some 9, op := Op.move (Operand.tmp 0), type := 54, pos := "links.go:42", after := #[{ on := 3, ground := Ground.guard }], guard := some (3, false) }) (v := ?_) rfl (by kernel_rfl) (by kernel_rfl) (by kernel_rfl) (fun _ _ _ h => h) (Or.inl ⟨by rfl, ?_⟩) (by assumption) ?_
      rotate_left 1
      · (intro w hSw; (try dsimp only at hSw); go_simp; (try with_reducible rfl))
      try simp only [Act.put, List.setIfInBounds_toArray, List.set_cons_zero, List.set_cons_succ]
      refine wpAnyH_take (i := 6) (oi := { dst := some 10, op := Op.call { callee := Callee.builtin Builtin.len, args := #[Operand.tmp 9], argTypes := #[54] }, type := 3, pos := "links.go:42", after := #[{ on := 5, ground := Ground.data }, { on := 3, ground := Ground.guard }], guard := some (3, false) }) (v := ?_) rfl (by kernel_rfl) (by kernel_rfl) (by kernel_rfl) (fun _ _ _ h => h) (Or.inl ⟨by rfl, ?_⟩) (by assumption) ?_
      rotate_left 1
      · (intro w hSw; (try dsimp only at hSw); go_simp; (try with_reducible rfl))
      try simp only [Act.put, List.setIfInBounds_toArray, List.set_cons_zero, List.set_cons_succ]
      refine wpAnyH_take (i := 7) (oi := { dst := some 11, op := Op.binOp BinOp.sub 3 (Operand.tmp 10) (Operand.const (Value.int IntKind.i64 4)) 3, type := 3, pos := "links.go:42", after := #[{ on := 6, ground := Ground.data }, { on := 3, ground := Ground.guard }], guard := some (3, false) }) (v := ?_) rfl (by kernel_rfl) (by kernel_rfl) (by kernel_rfl) (fun _ _ _ h => h) (Or.inl ⟨by rfl, ?_⟩) (by assumption) ?_
      rotate_left 1
      · (intro w hSw; (try dsimp only at hSw); go_simp; (try with_reducible rfl))
      try simp only [Act.put, List.setIfInBounds_toArray, List.set_cons_zero, List.set_cons_succ]
      refine wpAnyH_take (i := 8) (oi := { dst := some 12, op := Op.slice 54 (Operand.tmp 8) none (some (Operand.tmp 11)) none, type := 54, pos := "links.go:42", after := #[{ on := 4, ground := Ground.data }, { on := 7, ground := Ground.data }, { on := 3, ground := Ground.guard }], guard := some (3, false) }) (v := ?_) rfl (by kernel_rfl) (by kernel_rfl) (by kernel_rfl) (fun _ _ _ h => h) (Or.inl ⟨by rfl, ?_⟩) (by assumption) ?_
      rotate_left 1
      · (intro w hSw; (try dsimp only at hSw); go_simp; (try with_reducible rfl))
      try simp only [Act.put, List.setIfInBounds_toArray, List.set_cons_zero, List.set_cons_succ]
      refine wpAnyH_take (i := 11) (oi := { dst := some 15, op := Op.move (Operand.tmp 0), type := 54, pos := "links.go:42", after := #[{ on := 3, ground := Ground.guard }], guard := some (3, false) }) (v := ?_) rfl (by kernel_rfl) (by kernel_rfl) (by kernel_rfl) (fun _ _ _ h => h) (Or.inl ⟨by rfl, ?_⟩) (by assumption) ?_
      rotate_left 1
      · (intro w hSw; (try dsimp only at hSw); go_simp; (try with_reducible rfl))
      try simp only [Act.put, List.setIfInBounds_toArray, List.set_cons_zero, List.set_cons_succ]
      refine wpAnyH_take (i := 12) (oi := { dst := some 16, op := Op.convert 54 9 (Operand.tmp 15), type := 9, pos := "links.go:42", after := #[{ on := 11, ground := Ground.data }, { on := 3, ground := Ground.guard }], guard := some (3, false) }) (v := ?_) rfl (by kernel_rfl) (by kernel_rfl) (by kernel_rfl) (fun _ _ _ h => h) (Or.inl ⟨by rfl, ?_⟩) (by assumption) ?_
      rotate_left 1
      · (intro w hSw; (try dsimp only at hSw); go_simp; (try with_reducible rfl))
      try simp only [Act.put, List.setIfInBounds_toArray, List.set_cons_zero, List.set_cons_succ]
      refine wpAnyH_ready (rs := [9]) (by kernel_rfl) (by simp) ?_
      refine AllReadyH.cons (o := { dst := some 13, op := Op.call { callee := Callee.value (Operand.func 91), args := #[Operand.tmp 12], argTypes := #[54] }, type := 54, pos := "links.go:42", after := #[{ on := 8, ground := Ground.data }, { on := 3, ground := Ground.chain }, { on := 3, ground := Ground.guard }], guard := some (3, false) }) rfl (fun K hK => ?_) AllReadyH.nil
      go_simp
      go_at_call 91
      refine (SC _ hb0).mono ?_
      rintro e w1 ⟨A1, c1, rfl, hown1, hbn⟩
      have hb0 := onward hb0 (Nat.le_refl _) hbn
      have kb := HC.out _ hb0
      have k1 := HC2 hown1
      go_wp2_with fail
      refine hK.out _ _ kb (fun hHeld => ?_)
      clear hK K
      try simp only [Act.put, List.setIfInBounds_toArray, List.set_cons_zero, List.set_cons_succ]
      refine Rg.pin hHeld (fun hHeld => ?_)
      refine wpAnyH_take (i := 10) (oi := { dst := some 14, op := Op.convert 54 9 (Operand.tmp 13), type := 9, pos := "links.go:42", after := #[{ on := 9, ground := Ground.data }, { on := 3, ground := Ground.guard }], guard := some (3, false) }) (v := ?_) rfl (by kernel_rfl) (by kernel_rfl) (by kernel_rfl) (fun _ _ _ h => h) (Or.inl ⟨by rfl, ?_⟩) (by assumption) ?_
      rotate_left 1
      · (intro w hSw; (try dsimp only at hSw); subst hSw; go_simp; (try with_reducible rfl))
      try simp only [Act.put, List.setIfInBounds_toArray, List.set_cons_zero, List.set_cons_succ]
      refine wpAnyH_take (i := 13) (oi := { dst := some 17, op := Op.binOp BinOp.neq 9 (Operand.tmp 14) (Operand.tmp 16) 9, type := 4, pos := "links.go:42", after := #[{ on := 10, ground := Ground.data }, { on := 12, ground := Ground.data }, { on := 3, ground := Ground.guard }], guard := some (3, false) }) (v := ?_) rfl (by kernel_rfl) (by kernel_rfl) (by kernel_rfl) (fun _ _ _ h => h) (Or.inl ⟨by rfl, ?_⟩) (by assumption) ?_
      rotate_left 1
      · (intro w hSw; (try dsimp only at hSw); subst hSw; go_simp; (try with_reducible rfl))
      try simp only [Act.put, List.setIfInBounds_toArray, List.set_cons_zero, List.set_cons_succ]
      refine wpAnyH_take (i := 14) (oi := { dst := some 18, op := Op.pick (Operand.tmp 7) (Operand.const (Value.bool true)) (Operand.tmp 17), type := 4, pos := "links.go:42", after := #[{ on := 3, ground := Ground.data }, { on := 13, ground := Ground.data }], guard := none }) (v := ?_) rfl (by kernel_rfl) (by kernel_rfl) (by kernel_rfl) (fun _ _ _ h => h) (Or.inl ⟨by rfl, ?_⟩) (by assumption) ?_
      rotate_left 1
      · (intro w hSw; (try dsimp only at hSw); subst hSw; go_simp; (try with_reducible rfl))
      try simp only [Act.put, List.setIfInBounds_toArray, List.set_cons_zero, List.set_cons_succ]
      refine wpAnyH_done (by kernel_rfl) ?_ _
      refine NoPanic.normal ?_
      clear kb k1 hHeld
      have HK2 := Lib.hid (HK.out.below (hb0.mono hB))
      go_wp2_with (at_builtin; refine wpList_append_rd _ rfl (.const (.slice none 0 0)) (.tmp 23) 54 rfl (base := w.heap.size) elemBytes rfl (World.ownsRow_nil _ _ _ _) rfl (fun h => ⟨by have := hA h; omega, hA h⟩) HK2.out (bytesV_one _) (by unfold maxLen; omega) (by omega) hb0.size ?_; intro A2 c2 w2 hA2 hown2 hg2)
      simp only [List.nil_append, Nat.zero_add] at hown2
      have hb2 := Below.grown hb0 hg2 hb0.size (by intro g e; cases e)
      go_wp2_with fail
      go_ret2
      exact .inl ⟨HO.out, A2, c2, by rw [HE.out]; rfl, by rw [HE.out]; exact hown2, hb2⟩
    · have HO := Lib.hid ho
      clear ho
      go_enter Try.func64, Try.ntmps64
      go_wp2_with fail
      refine wp_region_noPanic ?_
      refine wp_region_held_drew (S := fun w' => (convert 54 9 (.slice A (n + 4) c)).run Try.prog w' = .ok (.string S1) w') (by kernel_rfl) kb (fun hHeld => ?_)
      refine wpAnyH_take (i := 0) (oi := { dst := some 4, op := Op.move (Operand.tmp 0), type := 54, pos := "links.go:42", after := #[], guard := none }) (v := ?_) rfl (by kernel_rfl) (by kernel_rfl) (by kernel_rfl) (fun _ _ _ h => h) (Or.inl ⟨by rfl, ?_⟩) (by assumption) ?_
      rotate_left 1
      · (intro w hSw; (try dsimp only at hSw); go_simp; (try with_reducible rfl))
      try simp only [Act.put, List.setIfInBounds_toArray, List.set_cons_zero, List.set_cons_succ]
      refine wpAnyH_take (i := 1) (oi := { dst := some 5, op := Op.call { callee := Callee.builtin Builtin.len, args := #[Operand.tmp 4], argTypes := #[54] }, type := 3, pos := "links.go:42", after := #[{ on := 0, ground := Ground.data }], guard := none }) (v := ?_) rfl (by kernel_rfl) (by kernel_rfl) (by kernel_rfl) (fun _ _ _ h => h) (Or.inl ⟨by rfl, ?_⟩) (by assumption) ?_
      rotate_left 1
      · (intro w hSw; (try dsimp only at hSw); go_simp; (try with_reducible rfl))
      try simp only [Act.put, List.setIfInBounds_toArray, List.set_cons_zero, List.set_cons_succ]
      refine wpAnyH_take (i := 2) (oi := { dst := some 6, op := Op.binOp BinOp.lss 3 (Operand.tmp 5) (Operand.const (Value.int IntKind.i64 4)) 3, type := 4, pos := "links.go:42", after := #[{ on := 1, ground := Ground.data }], guard := none }) (v := ?_) rfl (by kernel_rfl) (by kernel_rfl) (by kernel_rfl) (fun _ _ _ h => h) (Or.inl ⟨by rfl, ?_⟩) (by assumption) ?_
      rotate_left 1
      · (intro w hSw; (try dsimp only at hSw); go_simp; (try with_reducible rfl))
      try simp only [Act.put, List.setIfInBounds_toArray, List.set_cons_zero, List.set_cons_succ]
      refine wpAnyH_take (i := 3) (oi := { dst := some 7, op := Op.move (Operand.tmp 6), type := 4, pos := "links.go:42", after := #[{ on := 2, ground := Ground.data }], guard := none }) (v := ?_) rfl (by kernel_rfl) (by kernel_rfl) (by kernel_rfl) (fun _ _ _ h => h) (Or.inl ⟨by rfl, ?_⟩) (by assumption) ?_
      rotate_left 1
      · (intro w hSw; (try dsimp only at hSw); go_simp; (try with_reducible rfl))
      try simp only [Act.put, List.setIfInBounds_toArray, List.set_cons_zero, List.set_cons_succ]
      refine wpAnyH_take (i := 4) (oi := { dst := some 8, op := Op.move (Operand.tmp 0), type := 54, pos := "links.go:42", after := #[{ on := 3, ground := Ground.guard }], guard := some (3, false) }) (v := ?_) rfl (by kernel_rfl) (by kernel_rfl) (by kernel_rfl) (fun _ _ _ h => h) (Or.inl ⟨by rfl, ?_⟩) (by assumption) ?_
      rotate_left 1
      · (intro w hSw; (try dsimp only at hSw); go_simp; (try with_reducible rfl))
      try simp only [Act.put, List.setIfInBounds_toArray, List.set_cons_zero, List.set_cons_succ]
      refine wpAnyH_take (i := 5) (oi := { dst := some 9, op := Op.move (Operand.tmp 0), type := 54, pos := "links.go:42", after := #[{ on := 3, ground := Ground.guard }], guard := some (3, false) }) (v := ?_) rfl (by kernel_rfl) (by kernel_rfl) (by kernel_rfl) (fun _ _ _ h => h) (Or.inl ⟨by rfl, ?_⟩) (by assumption) ?_
      rotate_left 1
      · (intro w hSw; (try dsimp only at hSw); go_simp; (try with_reducible rfl))
      try simp only [Act.put, List.setIfInBounds_toArray, List.set_cons_zero, List.set_cons_succ]
      refine wpAnyH_take (i := 6) (oi := { dst := some 10, op := Op.call { callee := Callee.builtin Builtin.len, args := #[Operand.tmp 9], argTypes := #[54] }, type := 3, pos := "links.go:42", after := #[{ on := 5, ground := Ground.data }, { on := 3, ground := Ground.guard }], guard := some (3, false) }) (v := ?_) rfl (by kernel_rfl) (by kernel_rfl) (by kernel_rfl) (fun _ _ _ h => h) (Or.inl ⟨by rfl, ?_⟩) (by assumption) ?_
      rotate_left 1
      · (intro w hSw; (try dsimp only at hSw); go_simp; (try with_reducible rfl))
      try simp only [Act.put, List.setIfInBounds_toArray, List.set_cons_zero, List.set_cons_succ]
      refine wpAnyH_take (i := 7) (oi := { dst := some 11, op := Op.binOp BinOp.sub 3 (Operand.tmp 10) (Operand.const (Value.int IntKind.i64 4)) 3, type := 3, pos := "links.go:42", after := #[{ on := 6, ground := Ground.data }, { on := 3, ground := Ground.guard }], guard := some (3, false) }) (v := ?_) rfl (by kernel_rfl) (by kernel_rfl) (by kernel_rfl) (fun _ _ _ h => h) (Or.inl ⟨by rfl, ?_⟩) (by assumption) ?_
      rotate_left 1
      · (intro w hSw; (try dsimp only at hSw); go_simp; (try with_reducible rfl))
      try simp only [Act.put, List.setIfInBounds_toArray, List.set_cons_zero, List.set_cons_succ]
      refine wpAnyH_take (i := 8) (oi := { dst := some 12, op := Op.slice 54 (Operand.tmp 8) none (some (Operand.tmp 11)) none, type := 54, pos := "links.go:42", after := #[{ on := 4, ground := Ground.data }, { on := 7, ground := Ground.data }, { on := 3, ground := Ground.guard }], guard := some (3, false) }) (v := ?_) rfl (by kernel_rfl) (by kernel_rfl) (by kernel_rfl) (fun _ _ _ h => h) (Or.inl ⟨by rfl, ?_⟩) (by assumption) ?_
      rotate_left 1
      · (intro w hSw; (try dsimp only at hSw); go_simp; (try with_reducible rfl))
      try simp only [Act.put, List.setIfInBounds_toArray, List.set_cons_zero, List.set_cons_succ]
      refine wpAnyH_take (i := 11) (oi := { dst := some 15, op := Op.move (Operand.tmp 0), type := 54, pos := "links.go:42", after := #[{ on := 3, ground := Ground.guard }], guard := some (3, false) }) (v := ?_) rfl (by kernel_rfl) (by kernel_rfl) (by kernel_rfl) (fun _ _ _ h => h) (Or.inl ⟨by rfl, ?_⟩) (by assumption) ?_
      rotate_left 1
      · (intro w hSw; (try dsimp only at hSw); go_simp; (try with_reducible rfl))
      try simp only [Act.put, List.setIfInBounds_toArray, List.set_cons_zero, List.set_cons_succ]
      refine wpAnyH_take (i := 12) (oi := { dst := some 16, op := Op.convert 54 9 (Operand.tmp 15), type := 9, pos := "links.go:42", after := #[{ on := 11, ground := Ground.data }, { on := 3, ground := Ground.guard }], guard := some (3, false) }) (v := ?_) rfl (by kernel_rfl) (by kernel_rfl) (by kernel_rfl) (fun _ _ _ h => h) (Or.inl ⟨by rfl, ?_⟩) (by assumption) ?_
      rotate_left 1
      · (intro w hSw; (try dsimp only at hSw); go_simp; (try with_reducible rfl))
      try simp only [Act.put, List.setIfInBounds_toArray, List.set_cons_zero, List.set_cons_succ]
      refine wpAnyH_ready (rs := [9]) (by kernel_rfl) (by simp) ?_
      refine AllReadyH.cons (o := { dst := some 13, op := Op.call { callee := Callee.value (Operand.func 91), args := #[Operand.tmp 12], argTypes := #[54] }, type := 54, pos := "links.go:42", after := #[{ on := 8, ground := Ground.data }, { on := 3, ground := Ground.chain }, { on := 3, ground := Ground.guard }], guard := some (3, false) }) rfl (fun K hK => ?_) AllReadyH.nil
      go_simp
      go_at_call 91
      refine (SC _ hb0).mono ?_
      rintro e w1 ⟨A1, c1, rfl, hown1, hbn⟩
      have hb0 := onward hb0 (Nat.le_refl _) hbn
      have kb := HC.out _ hb0
      have k1 := HC2 hown1
      go_wp2_with fail
      refine hK.out _ _ kb (fun hHeld => ?_)
      clear hK K
      try simp only [Act.put, List.setIfInBounds_toArray, List.set_cons_zero, List.set_cons_succ]
      refine Rg.pin hHeld (fun hHeld => ?_)
      refine wpAnyH_take (i := 10) (oi := { dst := some 14, op := Op.convert 54 9 (Operand.tmp 13), type := 9, pos := "links.go:42", after := #[{ on := 9, ground := Ground.data }, { on := 3, ground := Ground.guard }], guard := some (3, false) }) (v := ?_) rfl (by kernel_rfl) (by kernel_rfl) (by kernel_rfl) (fun _ _ _ h => h) (Or.inl ⟨by rfl, ?_⟩) (by assumption) ?_
      rotate_left 1
      · (intro w hSw; (try dsimp only at hSw); subst hSw; go_simp; (try with_reducible rfl))
      try simp only [Act.put, List.setIfInBounds_toArray, List.set_cons_zero, List.set_cons_succ]
      refine wpAnyH_take (i := 13) (oi := { dst := some 17, op := Op.binOp BinOp.neq 9 (Operand.tmp 14) (Operand.tmp 16) 9, type := 4, pos := "links.go:42", after := #[{ on := 10, ground := Ground.data }, { on := 12, ground := Ground.data }, { on := 3, ground := Ground.guard }], guard := some (3, false) }) (v := ?_) rfl (by kernel_rfl) (by kernel_rfl) (by kernel_rfl) (fun _ _ _ h => h) (Or.inl ⟨by rfl, ?_⟩) (by assumption) ?_
      rotate_left 1
      · (intro w hSw; (try dsimp only at hSw); subst hSw; go_simp; (try with_reducible rfl))
      try simp only [Act.put, List.setIfInBounds_toArray, List.set_cons_zero, List.set_cons_succ]
      refine wpAnyH_take (i := 14) (oi := { dst := some 18, op := Op.pick (Operand.tmp 7) (Operand.const (Value.bool true)) (Operand.tmp 17), type := 4, pos := "links.go:42", after := #[{ on := 3, ground := Ground.data }, { on := 13, ground := Ground.data }], guard := none }) (v := ?_) rfl (by kernel_rfl) (by kernel_rfl) (by kernel_rfl) (fun _ _ _ h => h) (Or.inl ⟨by rfl, ?_⟩) (by assumption) ?_
      rotate_left 1
      · (intro w hSw; (try dsimp only at hSw); subst hSw; go_simp; (try with_reducible rfl))
      try simp only [Act.put, List.setIfInBounds_toArray, List.set_cons_zero, List.set_cons_succ]
      refine wpAnyH_done (by kernel_rfl) ?_ _
      refine NoPanic.normal ?_
      clear kb k1 hHeld
      go_wp2_with fail
      go_ret2
      exact .inr ⟨HO.out, rfl, hb0⟩
end Go.Proofs.Ytjfllpmiajkenaa.Sm
