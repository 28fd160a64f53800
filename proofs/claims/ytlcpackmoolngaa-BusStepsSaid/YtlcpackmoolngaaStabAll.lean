/- slices.symMergeCmpFunc at the parcels, at every interval. -/
import Derived.Test.YtlcpackmoolngaaStabSyn
namespace Go.Proofs.Ytlcpackmoolngaa.Ss
open Go.Shelf Go.RowKit Go.Lib Go.Sort Go.Proofs.Ytlcpackmoolngaa.Stb
set_option linter.unusedVariables false
variable {α : Type} [Inhabited α] {enc : α → List Value} {w0 : World} {blk off cap : Nat} {d0 : Array α}
variable {P : Program} {k gf : Nat} {cf : α → α → Int} {lt : α → α → Bool} {τ : α → Nat}

theorem sym_at (L : LaysP P k) (R : RowK enc k w0 blk off d0) (eg : ∀ args w, (callFunc gf args).run P w = .ok (.enter gf args) w) (hC : CmpLays P gf #[] enc k cf blk off d0.size w0) (hS : SWO lt) (hlt : ∀ x y, τ x < τ y → decide (cf y x < 0) = lt y x) (hsz : d0.size < 4611686018427387904) : ∀ N, SymAt P enc k gf lt τ w0 blk off cap d0 N
  | 0 => fun a m b f W hN => absurd hN (Nat.not_lt_zero _)
  | N + 1 => fun a m b f W hN hs h ham hmb hb hL hR hx => by
    have IH := sym_at L R eg hC hS hlt hsz N
    by_cases h1 : m = a + 1
    · exact sym_left L R eg hC hS hlt hs h a m b h1 hmb hb hsz hR (fun y h2 h3 => hx a y (Nat.le_refl _) ham h2 h3)
    · by_cases h2 : b = m + 1
      · exact sym_right L R eg hC hS hlt hs h a m b h2 (by omega) hb hsz hL (fun x h3 h4 => hx x m h3 h4 (Nat.le_refl _) hmb)
      · by_cases h3 : (a + b) / 2 < m
        · exact sym_big L R eg hC hS hlt hsz IH a m b f W hN hs h (by omega) (by omega) hb h3 hL hR hx
        · exact sym_small L R eg hC hS hlt hsz IH a m b f W hN hs h (by omega) (by omega) hb h3 hL hR hx

theorem sym_any (L : LaysP P k) (R : RowK enc k w0 blk off d0) (eg : ∀ args w, (callFunc gf args).run P w = .ok (.enter gf args) w) (hC : CmpLays P gf #[] enc k cf blk off d0.size w0) (hS : SWO lt) (hlt : ∀ x y, τ x < τ y → decide (cf y x < 0) = lt y x) (hsz : d0.size < 4611686018427387904) (a m b : Nat) (f : Array α) (W : World) (hs : f.size = d0.size) (h : SWK enc k w0 blk off f W) (ham : a < m) (hmb : m < b) (hb : b ≤ d0.size) (hL : SortedIn lt a m f) (hR : SortedIn lt m b f) (hx : ∀ x y, a ≤ x → x < m → m ≤ y → y < b → τ f[x]! < τ f[y]!) :
    Calls P 78 #[.slice (some ⟨blk, off, none⟩) d0.size cap, .int .i64 a, .int .i64 m, .int .i64 b, .func (.func gf) #[] #[]] W fun e w' => e = .returned (.tuple #[]) ∧ ∃ f', SWK enc k w0 blk off f' w' ∧ f'.size = d0.size ∧ PermIn a b f f' ∧ SortedIn lt a b f' :=
  sym_at L R eg hC hS hlt hsz (b - a + 1) a m b f W (Nat.lt_succ_self _) hs h ham hmb hb hL hR hx
end Go.Proofs.Ytlcpackmoolngaa.Ss
