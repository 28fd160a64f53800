/- Contracts: agree.Majority, agree.Decide and the reference's Majority. -/
import Derived.Test.YtjfllpmiajkenaaOpen
import Derived.Test.YtjfllpmiajkenaaMajLaw
import Derived.WalkSpells
import Derived.WalkLawsBesides
import Derived.Deep.RegionHeld3
namespace Go.Proofs.Ytjfllpmiajkenaa.Mj
open Go.ChangeShapes Go.WideShapes Go.ChangeAt Go.RowKit Go.Proofs.Ytjfllpmiajkenaa.Mem Go.Proofs.Ytjfllpmiajkenaa.MajLaw
set_option linter.unusedVariables false

def intsV (zs : List Int) : List Value := zs.map (Value.int .i64)
theorem intsV_at (zs : List Int) (k : Nat) (hk : k < zs.length) : (intsV zs)[k]? = some (.int .i64 zs[k]) := by simp [intsV, hk]
theorem intsV_one (zs : List Int) : ∀ u ∈ intsV zs, u.oneCell' = true := fun u hu => by
  obtain ⟨z, _, rfl⟩ := List.mem_map.1 hu
  rfl

theorem elemInts : Elem Try.prog 39 3 (.int .i64 0) 1 8 := ⟨Try.underlying39, by kernel_rfl, rfl, by omega⟩
theorem rd_of_blk {w : World} {g : Nat} {t : TypeId} {cs : Array Value} (h : Blk w g t cs) : Rd w (g + 1) 1 (some ⟨g, 0, none⟩) cs.size cs.toList :=
  ⟨by simp, fun _ => ⟨g, 0, rfl, by omega, fun j u hu => by rw [Nat.zero_add, h.cell]; simpa using hu⟩⟩

set_option maxRecDepth 100000 in
theorem openInts {H : Type} {enc : TypeId × Value → H} {W : World} {base : Nat} {v : Value} {d : DataW H} {ps : List MemPlace} (hv : Value.okWide Try.prog W .any base 39 v)
    (h : DataW.Trod enc Try.prog W 0 (fun _ => true) true 39 v d ps) (hl : Op.Light Try.prog 39 d) :
    ∃ (A : Option Addr) (c : Nat) (zs : List Int), v = .slice A zs.length c ∧ zs.length ≤ c ∧ c * 8 ≤ 140737488351232 ∧ (A = none → c = 0) ∧ Rd W W.heap.size 1 A zs.length (intsV zs) ∧ ∀ z ∈ zs, (Lit.int .i64 z).wf = true := by
  obtain ⟨a0, len, cap, rfl⟩ := okWide_slice Try.underlying39 hv
  obtain ⟨n, hn⟩ := h
  obtain ⟨A, c, zs, e, h1, h2, h3, h4, h5, h6⟩ := Op.Leaf.ints (enc := enc) (held := true) (base := 0) (spare := fun _ => true) (w := W) (v := .slice a0 len cap) Try.underlying39 Try.underlying3 (by kernel_rfl) (fun _ => rfl) ⟨n, _, hn, hl⟩
  rw [show Try.prog.bytesOf 3 = 8 from by kernel_rfl] at h3
  rw [e]
  exact ⟨A, c, zs, rfl, h1, h3, h4, h5, h6⟩

theorem majority_any (A : Option Addr) (c : Nat) (zs : List Int) (o : Int) (B : Nat) (w : World) (hl : zs.length ≤ 140737488355328) (hr : Rd w B 1 A zs.length (intsV zs)) :
    Calls Try.prog 79 #[.slice A zs.length c, .int .i64 o] w fun e w' => e = .returned (.int .i64 (maj zs o)) ∧ w = w' := by
  have HR := Lib.hid hr
  clear hr
  go_enter Try.func79, Try.ntmps79
  go_wp2_with fail
  go_loop [5, 6, 13] (fun n a i => ∃ k : Nat, k ≤ zs.length ∧ i = .int .i64 k ∧ n = .int .i64 ((left (zs.take k)).1 : Nat) ∧ a = .int .i64 (left (zs.take k)).2) (fun _ _ i => zs.length - (intOf i).toNat)
  case atStart => exact ⟨0, by omega, rfl, rfl, rfl⟩
  case round =>
    obtain ⟨k, hk, rfl, rfl, rfl⟩ := hrel
    by_cases hlt : k < zs.length
    · obtain ⟨b, q, u, rfl, hbB, hu, hcell⟩ := HR.out.at hlt
      rw [intsV_at zs k hlt] at hu
      injection hu with hu
      subst hu
      have HS := Lib.hid (left_take zs k hlt)
      have hle := left_le (zs.take k)
      rw [List.length_take, Nat.min_eq_left hk] at hle
      generalize left (zs.take k) = s at HS hle ⊢
      generalize zs[k] = v at HS hcell
      obtain ⟨n, a⟩ := s
      simp only at hle ⊢
      have hlt1 : (k : Int) < (zs.length : Int) := by omega
      by_cases h0 : n = 0
      · have HE := Lib.hid (show vstep (n, a) v = (1, v) from vstep_zero h0)
        have hb : ((n : Int) == 0) = true := by simp [h0]
        clear h0
        go_wp2_with fail
        exact ⟨⟨k + 1, by omega, by go_num, by rw [HS.out, HE.out]; rfl, by rw [HS.out, HE.out]⟩, by simp [intOf]; omega⟩
      · have hb : ((n : Int) == 0) = false := by simp [h0]
        by_cases h1 : v = a
        · have HE := Lib.hid (show vstep (n, a) v = (n + 1, a) from vstep_same h0 h1)
          have hb1 : (v == a) = true := by simp [h1]
          clear h0 h1
          go_wp2_with fail
          exact ⟨⟨k + 1, by omega, by go_num, by rw [HS.out, HE.out]; go_num, by rw [HS.out, HE.out]⟩, by simp [intOf]; omega⟩
        · have HE := Lib.hid (show vstep (n, a) v = (n - 1, a) from vstep_other h0 h1)
          have hb1 : (v == a) = false := by simp [h1]
          have hn1 : 1 ≤ n := by omega
          clear h0 h1
          go_wp2_with fail
          exact ⟨⟨k + 1, by omega, by go_num, by rw [HS.out, HE.out]; go_num, by rw [HS.out, HE.out]⟩, by simp [intOf]; omega⟩
    · obtain rfl : k = zs.length := by omega
      clear hlt
      have HM := Lib.hid (show maj zs o = if zs.length < 2 * cnt (left (zs.take zs.length)).2 (zs.take zs.length) then (left (zs.take zs.length)).2 else o by rw [List.take_length]; rfl)
      generalize left (zs.take zs.length) = s at HM ⊢
      obtain ⟨n, a⟩ := s
      simp only at HM ⊢
      go_wp2_with fail
      go_loop [5, 32] (fun n i => ∃ k : Nat, k ≤ zs.length ∧ i = .int .i64 k ∧ n = .int .i64 (cnt a (zs.take k) : Nat)) (fun _ i => zs.length - (intOf i).toNat)
      case atStart => exact ⟨0, by omega, rfl, rfl⟩
      case round =>
        obtain ⟨k, hk, rfl, rfl⟩ := hrel
        have hle := cnt_le a (zs.take k)
        rw [List.length_take, Nat.min_eq_left hk] at hle
        by_cases hlt : k < zs.length
        · obtain ⟨b, q, u, rfl, hbB, hu, hcell⟩ := HR.out.at hlt
          rw [intsV_at zs k hlt] at hu
          injection hu with hu
          subst hu
          have HS := Lib.hid (cnt_take a zs k hlt)
          generalize cnt a (zs.take k) = m at HS hle ⊢
          generalize zs[k] = v at HS hcell
          have hlt1 : (k : Int) < (zs.length : Int) := by omega
          by_cases h1 : v = a
          · have HE := Lib.hid (show (if v = a then 1 else 0) = 1 from if_pos h1)
            have hb1 : (v == a) = true := by simp [h1]
            clear h1
            go_wp2_with fail
            exact ⟨⟨k + 1, by omega, by go_num, by rw [HS.out, HE.out]; go_num⟩, by simp [intOf]; omega⟩
          · have HE := Lib.hid (show (if v = a then 1 else 0) = 0 from if_neg h1)
            have hb1 : (v == a) = false := by simp [h1]
            clear h1
            go_wp2_with fail
            exact ⟨⟨k + 1, by omega, by go_num, by rw [HS.out, HE.out]; go_num⟩, by simp [intOf]; omega⟩
        · obtain rfl : k = zs.length := by omega
          clear hlt
          generalize cnt a (zs.take zs.length) = m at HM hle ⊢
          by_cases hm : zs.length < 2 * m
          · have HE := Lib.hid (show (if zs.length < 2 * m then a else o) = a from if_pos hm)
            go_wp2_with fail
            go_ret
            exact ⟨by rw [HM.out, HE.out]; rfl, rfl⟩
          · have HE := Lib.hid (show (if zs.length < 2 * m then a else o) = o from if_neg hm)
            go_wp2_with fail
            go_ret
            exact ⟨by rw [HM.out, HE.out]; rfl, rfl⟩

theorem majorityref_any (A : Option Addr) (c : Nat) (zs : List Int) (o : Int) (B : Nat) (w : World) (hl : zs.length ≤ 140737488355328) (hr : Rd w B 1 A zs.length (intsV zs)) :
    Calls Try.prog 83 #[.slice A zs.length c, .int .i64 o] w fun e w' => e = .returned (.int .i64 (maj zs o)) ∧ w = w' := by
  have HR := Lib.hid hr
  clear hr
  go_enter Try.func83, Try.ntmps83
  go_wp2_with fail
  go_loop [12] (fun i => ∃ k : Nat, k ≤ zs.length ∧ i = .int .i64 k ∧ ∀ j (hj : j < zs.length), j < k → ¬ zs.length < 2 * cnt zs[j] zs) (fun i => zs.length - (intOf i).toNat)
  case atStart => exact ⟨0, by omega, rfl, fun j _ h => by omega⟩
  case round =>
    obtain ⟨k, hk, rfl, hj⟩ := hrel
    have HJ := Lib.hid hj
    clear hj
    by_cases hlt : k < zs.length
    · obtain ⟨b, q, u, rfl, hbB, hu, hcell⟩ := HR.out.at hlt
      rw [intsV_at zs k hlt] at hu
      injection hu with hu
      subst hu
      have HF := Lib.hid (show zs.length < 2 * cnt zs[k] zs → maj zs o = zs[k] from fun h => maj_found h)
      have HN := Lib.hid (show ¬ zs.length < 2 * cnt zs[k] zs → ∀ j (hj : j < zs.length), j < k + 1 → ¬ zs.length < 2 * cnt zs[j] zs from fun h j hj h1 => by
        by_cases e : j = k
        · subst e; exact h
        · exact HJ.out j hj (by omega))
      generalize zs[k] = v at hcell HF HN
      have hlt1 : (k : Int) < (zs.length : Int) := by omega
      go_wp2_with fail
      go_loop [7, 18] (fun n i => ∃ m : Nat, m ≤ zs.length ∧ i = .int .i64 m ∧ n = .int .i64 (cnt v (zs.take m) : Nat)) (fun _ i => zs.length - (intOf i).toNat)
      case atStart => exact ⟨0, by omega, rfl, rfl⟩
      case round =>
        obtain ⟨m, hm, rfl, rfl⟩ := hrel
        have hle := cnt_le v (zs.take m)
        rw [List.length_take, Nat.min_eq_left hm] at hle
        by_cases hlm : m < zs.length
        · obtain ⟨b', q', u, eA, hbB', hu, hcell'⟩ := HR.out.at hlm
          injection eA with eA
          injection eA with eA1 eA2
          subst eA1 eA2
          rw [intsV_at zs m hlm] at hu
          injection hu with hu
          subst hu
          have HS := Lib.hid (cnt_take v zs m hlm)
          generalize cnt v (zs.take m) = n at HS hle ⊢
          generalize zs[m] = x at HS hcell'
          have hlm1 : (m : Int) < (zs.length : Int) := by omega
          by_cases h1 : v = x
          · have HE := Lib.hid (show (if x = v then 1 else 0) = 1 from if_pos h1.symm)
            have hb1 : (v == x) = true := by simp [h1]
            clear h1
            go_wp2_with fail
            exact ⟨⟨m + 1, by omega, by go_num, by rw [HS.out, HE.out]; go_num⟩, by simp [intOf]; omega⟩
          · have HE := Lib.hid (show (if x = v then 1 else 0) = 0 from if_neg (fun e => h1 e.symm))
            have hb1 : (v == x) = false := by simp [h1]
            clear h1
            go_wp2_with fail
            exact ⟨⟨m + 1, by omega, by go_num, by rw [HS.out, HE.out]; go_num⟩, by simp [intOf]; omega⟩
        · obtain rfl : m = zs.length := by omega
          clear hlm
          rw [List.take_length] at hle ⊢
          generalize cnt v zs = n at HF HN hle ⊢
          by_cases hm : zs.length < 2 * n
          · have HF2 := Lib.hid (HF.out hm)
            go_wp2_with fail
            go_ret
            exact ⟨by rw [HF2.out]; rfl, rfl⟩
          · have HN2 := Lib.hid (HN.out hm)
            go_wp2_with fail
            exact ⟨⟨k + 1, by omega, by go_num, HN2.out⟩, by simp [intOf]; omega⟩
    · obtain rfl : k = zs.length := by omega
      have HF := Lib.hid (show maj zs o = o from maj_none fun i hi => HJ.out i hi hi)
      clear hlt
      go_wp2_with fail
      go_ret
      exact ⟨by rw [HF.out]; rfl, rfl⟩

theorem decide_any (a b c : Int) (w : World) :
    Calls Try.prog 44 #[.int .i64 a, .int .i64 b, .int .i64 c] w fun e w' => e = .returned (.int .i64 (maj [a, b, c] 0)) ∧ Below w.heap.size w w' := by
  have HB := Lib.hid (rd_of_blk (Blk.new (w := w) (t := 3) (cs := #[.int .i64 a, .int .i64 b, .int .i64 c]) rfl))
  go_enter Try.func44, Try.ntmps44
  go_wp2_with fail
  refine (majority_any _ 3 [a, b, c] 0 _ _ (by simp) HB.out).mono ?_
  rintro e w1 ⟨rfl, rfl⟩
  go_wp2_with fail
  go_ret
  exact ⟨rfl, (Below.refl _ _).alloc (Nat.le_refl _) _⟩
end Go.Proofs.Ytjfllpmiajkenaa.Mj
