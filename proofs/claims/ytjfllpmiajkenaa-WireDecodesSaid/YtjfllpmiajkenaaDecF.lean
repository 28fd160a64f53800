/- P6.3 in plain words: the message of bytes. -/
import Derived.Test.YtjfllpmiajkenaaOpens
import Derived.Test.YtjfllpmiajkenaaRight
namespace Go.Proofs.Ytjfllpmiajkenaa.Ms
open Go.ChangeShapes Go.WideShapes Go.ChangeAt Go.RowKit Go.Proofs.Ytjfllpmiajkenaa.Mem
set_option linter.unusedVariables false

def bAt (bs : List Nat) (i : Nat) : Nat := bs.getD i 0
/-- the number of n bytes from o on, the highest first -/
def valB (bs : List Nat) (o : Nat) : Nat → Nat
  | 0 => 0
  | n + 1 => valB bs o n * 256 + bAt bs (o + n)
theorem bAt_lt {bs : List Nat} (h : ∀ x ∈ bs, x < 256) (i : Nat) : bAt bs i < 256 := by
  unfold bAt
  rw [List.getD_eq_getElem?_getD]
  cases e : bs[i]? with
  | none => simp
  | some x => exact h x (List.mem_of_getElem? e)
theorem valB_lt {bs : List Nat} (h : ∀ x ∈ bs, x < 256) (o : Nat) : ∀ n, valB bs o n < 256 ^ n
  | 0 => Nat.zero_lt_one
  | n + 1 => by
    have h1 := valB_lt h o n
    have h2 := bAt_lt h (o + n)
    unfold valB
    rw [Nat.pow_succ]
    omega
def i64N (n : Nat) : Int := IntKind.i64.wrap (n : Int)
theorem wrap_small {x : Int} (h0 : 0 ≤ x) (h1 : x < 9223372036854775808) : IntKind.i64.wrap x = x := by rw [IntKind.wrap_i64]; omega
theorem u64_small {x : Int} (h : 0 ≤ x ∧ x < 18446744073709551616) : IntKind.u64.wrap x = x := by rw [u64wrap]; exact Int.emod_eq_of_lt h.1 h.2
theorem u64_step (V y : Nat) (hV : V < 72057594037927936) (hy : y < 256) {P U : Int} (hP : IntKind.u64.wrap ((V : Int) * 256) = P) (hU : IntKind.u64.wrap (P + (y : Int)) = U) : U = ((V * 256 + y : Nat) : Int) := by
  have h1 := u64_small (x := (V : Int) * 256) (by omega)
  rw [hP] at h1
  have h2 := u64_small (x := P + (y : Int)) (by omega)
  rw [hU] at h2
  omega
theorem i64N_small {n : Nat} (h : n < 9223372036854775808) : i64N n = (n : Int) := by unfold i64N; rw [IntKind.wrap_i64]; omega
theorem or_low (X c : Nat) (hX : X < 18446744073709551616) (h0 : X % 256 = 0) (hc : c < 256) : (BitVec.ofNat 64 X ||| BitVec.ofNat 64 c).toNat = X + c := by
  rw [BitVec.toNat_or, BitVec.toNat_ofNat, BitVec.toNat_ofNat, Nat.mod_eq_of_lt (show X < 2 ^ 64 from hX), Nat.mod_eq_of_lt (show c < 2 ^ 64 from Nat.lt_of_lt_of_le hc (by decide))]
  obtain ⟨q, hq⟩ : ∃ q, X = 2 ^ 8 * q := ⟨X / 256, by omega⟩
  rw [hq, ← Nat.two_pow_add_eq_or_of_lt (show c < 2 ^ 8 from hc)]
theorem ofInt_mod (x : Int) (n : Nat) (h : x % 18446744073709551616 = (n : Int) % 18446744073709551616) : BitVec.ofInt 64 x = BitVec.ofNat 64 n := by
  apply BitVec.eq_of_toNat_eq
  rw [BitVec.toNat_ofInt, BitVec.toNat_ofNat]
  have h1 : x % ((2 ^ 64 : Nat) : Int) = (n : Int) % ((2 ^ 64 : Nat) : Int) := h
  rw [h1, ← Int.natCast_emod, Int.toNat_natCast]
theorem i64_mod (x : Int) : (IntKind.i64.wrap x) % 18446744073709551616 = x % 18446744073709551616 := by rw [IntKind.wrap_i64]; omega
theorem i64_same {x y : Int} (h : x % 18446744073709551616 = y % 18446744073709551616) : IntKind.i64.wrap x = IntKind.i64.wrap y := by
  rw [IntKind.wrap_i64, IntKind.wrap_i64]
  omega
theorem i64_shl_or (V c : Nat) (hc : c < 256) : bits .or .i64 (IntKind.i64.wrap (i64N V * 256)) (c : Int) = i64N (V * 256 + c) := by
  obtain ⟨X, hX⟩ : ∃ X, V * 256 % 18446744073709551616 = X := ⟨_, rfl⟩
  have hXl : X < 18446744073709551616 := by rw [← hX]; exact Nat.mod_lt _ (by decide)
  have hX0 : X % 256 = 0 := by omega
  have hV := i64_mod (V : Int)
  have h1 : (IntKind.i64.wrap (i64N V * 256)) % 18446744073709551616 = (X : Int) % 18446744073709551616 := by
    rw [i64_mod]
    unfold i64N
    omega
  have hc1 : BitVec.ofInt 64 (c : Int) = BitVec.ofNat 64 c := ofInt_mod _ _ rfl
  show IntKind.i64.wrap ((BitVec.ofInt 64 (IntKind.i64.wrap (i64N V * 256)) ||| BitVec.ofInt 64 (c : Int)).toNat : Nat) = _
  rw [ofInt_mod _ _ h1, hc1, or_low X c hXl hX0 hc]
  unfold i64N
  refine i64_same ?_
  omega

def decN (bs : List Nat) : Nat := bAt bs 7
def decZ (bs : List Nat) (k : Nat) : List Int := (List.range k).map fun i => i64N (valB bs (8 + 8 * i) 8)
theorem decZ_succ (bs : List Nat) (k : Nat) : decZ bs (k + 1) = decZ bs k ++ [i64N (valB bs (8 + 8 * k) 8)] := by simp [decZ, List.range_succ]
theorem decZ_len (bs : List Nat) (k : Nat) : (decZ bs k).length = k := by simp [decZ]
/-- what is wrong with the bytes -/
def decE (bs : List Nat) : Int :=
  if 220 < bs.length then 1 else if bs.length < 12 ∨ bAt bs 0 ≠ 87 then 2 else if Sm.okB bs = false then 5 else if 24 < decN bs then 6 else if bs.length ≠ 12 + 8 * decN bs then 2 else wrong (bAt bs 1) (bAt bs 2) (valB bs 3 4) (decN bs)
/-- P6.3 -/
def DecAs (w w' : World) (bs : List Nat) (e : Ending) : Prop :=
  if decE bs = 0 then ∃ A c, e = .returned (.tuple #[msgV (bAt bs 1) (bAt bs 2) (valB bs 3 4) A (decN bs) c, .int .i64 0]) ∧ w'.ownsRow w.heap.size 3 1 (.slice A (decN bs) c) (decN bs) (intsV (decZ bs (decN bs))) ∧ Below w.heap.size w w'
  else e = .returned (.tuple #[msgV 0 0 0 none 0 0, .int .i64 (decE bs)]) ∧ Below w.heap.size w w'
end Go.Proofs.Ytjfllpmiajkenaa.Ms
