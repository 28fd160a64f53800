/- Contracts: clock.part, clock.Spread and the reference's Spread. -/
import Derived.Test.YtebgdmflpheeoaaOpen
import Derived.Test.YtebgdmflpheeoaaSpreadLaw
import Derived.WalkSpells
import Derived.WalkLawsBesides
namespace Go.Proofs.Ytebgdmflpheeoaa.Clk
open Go.ChangeShapes Go.WideShapes Go.ChangeAt Go.RowKit Go.Proofs.Ytebgdmflpheeoaa.Mem Go.Proofs.Ytebgdmflpheeoaa.SpreadLaw

theorem part_any (n m : Int) (w : World) (h0 : 0 ≤ m) (h1 : m ≤ 4398046511104) :
    Calls Try.prog 56 #[.int .i64 n, .int .i64 m] w fun e w' => e = .returned (.bool (decide (-m ≤ n) && decide (n ≤ m))) ∧ w = w' := by
  by_cases h2 : -m ≤ n
  · have hg := Lib.hid (show (decide (-m ≤ n) && decide (n ≤ m)) = decide (n ≤ m) from by simp [h2])
    go_enter Try.func56, Try.ntmps56
    go_wp2
    go_ret
    exact ⟨by rw [hg.out]; rfl, rfl⟩
  · have hg := Lib.hid (show (decide (-m ≤ n) && decide (n ≤ m)) = false from by simp [h2])
    go_enter Try.func56, Try.ntmps56
    go_wp2
    go_ret
    exact ⟨by rw [hg.out]; rfl, rfl⟩

def arr4 (a b c d : Int) : Value := .agg #[.int .i64 a, .int .i64 b, .int .i64 c, .int .i64 d]

theorem run_index4 (a b c d : Int) (k : Nat) (hk : k < 4) (w : World) : (Instr.index 49 (.agg #[.int .i64 a, .int .i64 b, .int .i64 c, .int .i64 d]) (.int .i64 (k : Int))).run Try.prog w = .ok (.int .i64 (at4 a b c d k)) w := by
  obtain rfl | rfl | rfl | rfl : k = 0 ∨ k = 1 ∨ k = 2 ∨ k = 3 := by omega
  all_goals kernel_rfl

/-- what Spread says -/
def isIn (x : Int) : Bool := decide (-2199023255552 ≤ x) && decide (x ≤ 2199023255552)
def allIn (f : Nat → Int) : Bool := isIn (f 0) && isIn (f 1) && isIn (f 2) && isIn (f 3)
def spread (f : Nat → Int) (bad : Int) : Int × Int := if allIn f then (most f bad 4, 0) else (0, 3)

theorem allIn_false {f : Nat → Int} {k : Nat} (hk : k < 4) (h : isIn (f k) = false) : allIn f = false := by
  unfold allIn
  obtain rfl | rfl | rfl | rfl : k = 0 ∨ k = 1 ∨ k = 2 ∨ k = 3 := by omega
  all_goals simp [h]
theorem allIn_true {f : Nat → Int} (h : ok f 4) : allIn f = true := by
  have h0 := h 0 (by omega); have h1 := h 1 (by omega); have h2 := h 2 (by omega); have h3 := h 3 (by omega)
  simp [allIn, isIn, h0, h1, h2, h3]
theorem ok_step {f : Nat → Int} {k : Nat} (h : ok f k) (hi : isIn (f k) = true) : ok f (k + 1) := fun j hj => by
  by_cases e : j = k
  · subst e; simpa [isIn] using hi
  · exact h j (by omega)

set_option maxHeartbeats 1000000 in
theorem spread_any (a b c d bad : Int) (w : World) :
    Calls Try.prog 42 #[arr4 a b c d, .int .i64 bad] w fun e w' => e = .returned (.tuple #[.int .i64 (spread (at4 a b c d) bad).1, .int .i64 (spread (at4 a b c d) bad).2]) ∧ Below w.heap.size w w' := by
  unfold arr4
  generalize hf : at4 a b c d = f
  have hix : ∀ k : Nat, k < 4 → ∀ w, (Instr.index 49 (.agg #[.int .i64 a, .int .i64 b, .int .i64 c, .int .i64 d]) (.int .i64 (k : Int))).run Try.prog w = .ok (.int .i64 (f k)) w := by subst hf; exact fun k hk w => run_index4 a b c d k hk w
  have Hix := Lib.hid hix
  clear hix hf
  go_enter Try.func42, Try.ntmps42
  go_wp2_with fail
  go_loop [6, 7, 8, 12] (fun lo hi fi i => ∃ k : Nat, k ≤ 4 ∧ ok f k ∧ i = .int .i64 k ∧ lo = .int .i64 (acc f bad k).1 ∧ hi = .int .i64 (acc f bad k).2.1 ∧ fi = .bool (acc f bad k).2.2) (fun _ _ _ i => 4 - (intOf i).toNat)
  case atStart => exact ⟨0, by omega, fun j hj => by omega, rfl, rfl, rfl, rfl⟩
  case round =>
    obtain ⟨k, hk, hok, rfl, rfl, rfl, rfl⟩ := hrel
    have Hok := Lib.hid hok
    have hbd := acc_bound f bad k hok
    clear hok
    by_cases hlt : k < 4
    · have hx := Hix.out k hlt
      by_cases hi : isIn (f k) = true
      · have hi' : (decide (-2199023255552 ≤ f k) && decide (f k ≤ 2199023255552)) = true := hi
        have hbf : -2199023255552 ≤ f k ∧ f k ≤ 2199023255552 := by simpa [isIn] using hi
        have HI := Lib.hid hi
        clear hi
        by_cases hb : (k : Int) = bad
        · have HS := Lib.hid (show acc f bad (k + 1) = acc f bad k from by simp [acc, hb])
          have hb' : ((k : Int) == bad) = true := by simpa using hb
          clear hb
          go_wp2_with (go_at_call 56; refine (part_any _ _ _ (by omega) (by omega)).mono ?_; rintro e w' ⟨rfl, rfl⟩)
          exact ⟨⟨k + 1, by omega, ok_step Hok.out HI.out, by go_num, by rw [HS.out], by rw [HS.out], by rw [HS.out]⟩, by simp [intOf]; omega⟩
        · have hS : acc f bad (k + 1) = (if (acc f bad k).2.2 || decide (f k < (acc f bad k).1) then f k else (acc f bad k).1, if (acc f bad k).2.2 || decide ((acc f bad k).2.1 < f k) then f k else (acc f bad k).2.1, false) := by
            conv => lhs; unfold acc
            simp [hb]
          have hb' : ((k : Int) == bad) = false := by simpa using hb
          clear hb
          generalize acc f bad k = s at hS hbd ⊢
          obtain ⟨lo, hi, fi⟩ := s
          simp only at hbd hS
          cases fi with
          | true =>
            simp only [Bool.true_or, if_true] at hS
            have HS := Lib.hid hS
            clear hS
            go_wp2_with (go_at_call 56; refine (part_any _ _ _ (by omega) (by omega)).mono ?_; rintro e w' ⟨rfl, rfl⟩)
            exact ⟨⟨k + 1, by omega, ok_step Hok.out HI.out, by go_num, by rw [HS.out], by rw [HS.out], by rw [HS.out]⟩, by simp [intOf]; omega⟩
          | false =>
            simp only [Bool.false_or, decide_eq_true_eq] at hS
            by_cases hl : f k < lo
            · by_cases hh : hi < f k
              · rw [if_pos hl, if_pos hh] at hS
                have HS := Lib.hid hS
                clear hS
                go_wp2_with (go_at_call 56; refine (part_any _ _ _ (by omega) (by omega)).mono ?_; rintro e w' ⟨rfl, rfl⟩)
                exact ⟨⟨k + 1, by omega, ok_step Hok.out HI.out, by go_num, by rw [HS.out], by rw [HS.out], by rw [HS.out]⟩, by simp [intOf]; omega⟩
              · rw [if_pos hl, if_neg hh] at hS
                have HS := Lib.hid hS
                clear hS
                go_wp2_with (go_at_call 56; refine (part_any _ _ _ (by omega) (by omega)).mono ?_; rintro e w' ⟨rfl, rfl⟩)
                exact ⟨⟨k + 1, by omega, ok_step Hok.out HI.out, by go_num, by rw [HS.out], by rw [HS.out], by rw [HS.out]⟩, by simp [intOf]; omega⟩
            · by_cases hh : hi < f k
              · rw [if_neg hl, if_pos hh] at hS
                have HS := Lib.hid hS
                clear hS
                go_wp2_with (go_at_call 56; refine (part_any _ _ _ (by omega) (by omega)).mono ?_; rintro e w' ⟨rfl, rfl⟩)
                exact ⟨⟨k + 1, by omega, ok_step Hok.out HI.out, by go_num, by rw [HS.out], by rw [HS.out], by rw [HS.out]⟩, by simp [intOf]; omega⟩
              · rw [if_neg hl, if_neg hh] at hS
                have HS := Lib.hid hS
                clear hS
                go_wp2_with (go_at_call 56; refine (part_any _ _ _ (by omega) (by omega)).mono ?_; rintro e w' ⟨rfl, rfl⟩)
                exact ⟨⟨k + 1, by omega, ok_step Hok.out HI.out, by go_num, by rw [HS.out], by rw [HS.out], by rw [HS.out]⟩, by simp [intOf]; omega⟩
      · have HA := Lib.hid (show spread f bad = (0, 3) from by simp [spread, allIn_false hlt (by simpa using hi)])
        have hi' : (decide (-2199023255552 ≤ f k) && decide (f k ≤ 2199023255552)) = false := by simpa [isIn] using hi
        clear hi
        go_wp2_with (go_at_call 56; refine (part_any _ _ _ (by omega) (by omega)).mono ?_; rintro e w' ⟨rfl, rfl⟩)
        go_ret2
        exact ⟨by rw [HA.out]; rfl, (Below.refl _ _).alloc (Nat.le_refl _) _⟩
    · obtain rfl : k = 4 := by omega
      have HA := Lib.hid (show spread f bad = ((acc f bad 4).2.1 - (acc f bad 4).1, 0) from by simp [spread, allIn_true Hok.out, SpreadLaw.same])
      clear hlt
      generalize acc f bad 4 = s at hbd HA
      obtain ⟨lo, hi, fi⟩ := s
      simp only at hbd HA
      go_wp2
      go_ret2
      exact ⟨by rw [HA.out]; rfl, (Below.refl _ _).alloc (Nat.le_refl _) _⟩

theorem refspread_any (a b c d bad : Int) (w : World) :
    Calls Try.prog 43 #[arr4 a b c d, .int .i64 bad] w fun e w' => e = .returned (.tuple #[.int .i64 (spread (at4 a b c d) bad).1, .int .i64 (spread (at4 a b c d) bad).2]) ∧ Below w.heap.size w w' := by
  unfold arr4
  generalize hf : at4 a b c d = f
  have hix : ∀ k : Nat, k < 4 → ∀ w, (Instr.index 49 (.agg #[.int .i64 a, .int .i64 b, .int .i64 c, .int .i64 d]) (.int .i64 (k : Int))).run Try.prog w = .ok (.int .i64 (f k)) w := by subst hf; exact fun k hk w => run_index4 a b c d k hk w
  have Hix := Lib.hid hix
  clear hix hf
  go_enter Try.func43, Try.ntmps43
  go_wp2_with fail
  go_loop [14] (fun i => ∃ k : Nat, k ≤ 4 ∧ ok f k ∧ i = .int .i64 k) (fun i => 4 - (intOf i).toNat)
  case atStart => exact ⟨0, by omega, fun j hj => by omega, rfl⟩
  case round =>
    obtain ⟨k, hk, hok, rfl⟩ := hrel
    have Hok := Lib.hid hok
    clear hok
    by_cases hlt : k < 4
    · have hx := Hix.out k hlt
      by_cases h1 : f k < -2199023255552
      · have HA := Lib.hid (show spread f bad = (0, 3) from by simp [spread, allIn_false hlt (show isIn (f k) = false by simp [isIn]; omega)])
        go_wp2_with fail
        go_ret2
        exact ⟨by rw [HA.out]; rfl, (Below.refl _ _).alloc (Nat.le_refl _) _⟩
      · by_cases h2 : 2199023255552 < f k
        · have HA := Lib.hid (show spread f bad = (0, 3) from by simp [spread, allIn_false hlt (show isIn (f k) = false by simp [isIn]; omega)])
          go_wp2_with fail
          go_ret2
          exact ⟨by rw [HA.out]; rfl, (Below.refl _ _).alloc (Nat.le_refl _) _⟩
        · have HI := Lib.hid (show isIn (f k) = true by simp [isIn]; omega)
          go_wp2_with fail
          exact ⟨⟨k + 1, by omega, ok_step Hok.out HI.out, by go_num⟩, by simp [intOf]; omega⟩
    · obtain rfl : k = 4 := by omega
      clear hlt
      have hok := Hok.out
      have HA := Lib.hid (show spread f bad = (most f bad 4, 0) from by simp [spread, allIn_true Hok.out])
      have hfb : ∀ j, j < 4 → -2199023255552 ≤ f j ∧ f j ≤ 2199023255552 := hok
      have Hfb := Lib.hid hfb
      clear hfb hok
      go_wp2_with fail
      go_loop [6, 25] (fun m i => ∃ n : Nat, n ≤ 4 ∧ i = .int .i64 n ∧ m = .int .i64 (most f bad n)) (fun _ i => 4 - (intOf i).toNat)
      case atStart => exact ⟨0, by omega, rfl, rfl⟩
      case round =>
        obtain ⟨n, hn, rfl, rfl⟩ := hrel
        by_cases hln : n < 4
        · have hy := Hix.out n hln
          have hmb := most_bound f bad n Hok.out (by omega)
          have HM := Lib.hid (show most f bad (n + 1) = row f bad (most f bad n) n 4 from rfl)
          have hbn := Hfb.out n hln
          generalize most f bad n = mm at hmb HM ⊢
          go_wp2_with fail
          go_loop [6, 30] (fun m i => ∃ q : Nat, q ≤ 4 ∧ i = .int .i64 q ∧ m = .int .i64 (row f bad mm n q)) (fun _ i => 4 - (intOf i).toNat)
          case atStart => exact ⟨0, by omega, rfl, rfl⟩
          case round =>
            obtain ⟨q, hq, rfl, rfl⟩ := hrel
            by_cases hlq : q < 4
            · have hz := Hix.out q hlq
              have hbq := Hfb.out q hlq
              have hrb := row_bound f bad mm n q Hok.out hln (by omega) hmb
              by_cases hnb : (n : Int) = bad
              · have HS := Lib.hid (show row f bad mm n (q + 1) = row f bad mm n q from by simp [row, hnb])
                have hb' : ((n : Int) != bad) = false := by simp [hnb]
                clear hnb
                generalize row f bad mm n q = r at hrb HS ⊢
                go_wp2_with fail
                exact ⟨⟨q + 1, by omega, by go_num, by rw [HS.out]⟩, by simp [intOf]; omega⟩
              · have hb' : ((n : Int) != bad) = true := by simp [hnb]
                by_cases hqb : (q : Int) = bad
                · have HS := Lib.hid (show row f bad mm n (q + 1) = row f bad mm n q from by simp [row, hqb])
                  have hb2 : ((q : Int) != bad) = false := by simp [hqb]
                  clear hnb hqb
                  generalize row f bad mm n q = r at hrb HS ⊢
                  go_wp2_with fail
                  exact ⟨⟨q + 1, by omega, by go_num, by rw [HS.out]⟩, by simp [intOf]; omega⟩
                · have HS := Lib.hid (show row f bad mm n (q + 1) = max (row f bad mm n q) (f n - f q) from by simp [row, hnb, hqb])
                  have hb2 : ((q : Int) != bad) = true := by simp [hqb]
                  clear hnb hqb
                  generalize row f bad mm n q = r at hrb HS ⊢
                  go_wp2_with fail
                  exact ⟨⟨q + 1, by omega, by go_num, by rw [HS.out]; congr 1; split <;> omega⟩, by simp [intOf]; omega⟩
            · obtain rfl : q = 4 := by omega
              go_wp2_with fail
              exact ⟨⟨n + 1, by omega, by go_num, by rw [HM.out]⟩, by simp [intOf]; omega⟩
        · obtain rfl : n = 4 := by omega
          go_wp2_with fail
          go_ret2
          exact ⟨by rw [HA.out]; rfl, (Below.refl _ _).alloc (Nat.le_refl _) _⟩
end Go.Proofs.Ytebgdmflpheeoaa.Clk
