/- The walks of Draw, of the program and of the reference. -/
import Derived.Test.YtbmihbmhpmmdcaaHash
import Derived.Deep.QuietTactic
import Derived.BigQuiet
namespace Go.Proofs.Ytbmihbmhpmmdcaa
open Go.RowKit

/-- The number that a draw gives. -/
def kOf (s n : Int) : Int := if 0 < n then Pl.stirI (Pl.golden s) % n else 0
theorem kOf_pos (s n : Int) (h : 0 < n) : kOf s n = Pl.stirI (Pl.golden s) % n := by unfold kOf; rw [if_pos h]
theorem kOf_neg (s n : Int) (h : n ≤ 0) : kOf s n = 0 := by unfold kOf; rw [if_neg (by omega)]
theorem kOf_bd (s n : Int) : 0 ≤ kOf s n ∧ (0 < n → kOf s n < n) := by
  unfold kOf
  split
  · exact ⟨Int.emod_nonneg _ (by omega), fun h => Int.emod_lt_of_pos _ h⟩
  · exact ⟨by omega, fun h => by omega⟩
theorem ret_two {a b c d : Int} (h : a = b) (h' : c = d) : Ending.returned (.tuple #[.int .u64 a, .int .i64 c]) = .returned (.tuple #[.int .u64 b, .int .i64 d]) := by rw [h, h']

theorem draw_any (s n : Int) (w : World) (n1 : n ≤ 9223372036854775807) :
    Calls Try.prog 11 #[.int .u64 s, .int .i64 n] w fun e w' => e = .returned (.tuple #[.int .u64 (Pl.golden s), .int .i64 (kOf s n)]) ∧ w = w' := by
  by_cases hn : 0 < n
  · have HK := Lib.hid (kOf_pos s n hn)
    have g1 := (Pl.golden_bd s).1
    have g2 := (Pl.golden_bd s).2
    have s1 := Pl.stirI_nonneg (IntKind.u64.wrap (s + 11400714819323198485))
    have s2 := Pl.stirI_lt (IntKind.u64.wrap (s + 11400714819323198485))
    have m1 : 0 ≤ Pl.stirI (IntKind.u64.wrap (s + 11400714819323198485)) % n := Int.emod_nonneg _ (by omega)
    have m2 : Pl.stirI (IntKind.u64.wrap (s + 11400714819323198485)) % n < n := Int.emod_lt_of_pos _ hn
    go_enter Try.func11, Try.ntmps11
    go_wp2_with (go_at_call 13; refine (stir_any _ _ g1 g2).mono ?_; rintro e w' ⟨rfl, rfl⟩)
    go_ret2
    exact ⟨ret_two rfl (by rw [HK.out]; rfl), rfl⟩
  · have HK := Lib.hid (kOf_neg s n (by omega))
    go_enter Try.func11, Try.ntmps11
    go_wp2
    go_ret2
    exact ⟨ret_two rfl HK.out.symm, rfl⟩
theorem drawR_any (s n : Int) (w : World) (n1 : n ≤ 9223372036854775807) :
    Calls Try.prog 12 #[.int .u64 s, .int .i64 n] w fun e w' => e = .returned (.tuple #[.int .u64 (Pl.golden s), .int .i64 (kOf s n)]) ∧ ∃ m, w' = w.drewN m := by
  by_cases hn : 0 < n
  · have HK := Lib.hid (kOf_pos s n hn)
    go_enter Try.func12, Try.ntmps12
    go_wp2_with fail
    have g1 := (Pl.golden_bd s).1
    have g2 := (Pl.golden_bd s).2
    generalize hg : IntKind.u64.wrap (s + 11400714819323198485) = g at *
    have HG := Lib.hid hg
    clear hg
    have s1 := Pl.stirI_nonneg g
    have s2 := Pl.stirI_lt g
    have m1 : 0 ≤ Pl.stirI g % n := Int.emod_nonneg _ (by omega)
    have m2 : Pl.stirI g % n < n := Int.emod_lt_of_pos _ hn
    go_quiet ((go_at_call 14; exact Calls.quiet_of_same ((stirR_any _ _ g1 g2).mono fun _ _ h => ⟨h.1, h.2.symm⟩)))
    go_wp2
    go_ret2
    exact ⟨ret_two HG.out.symm (by rw [HK.out, ← HG.out]; rfl), _, rfl⟩
  · have HK := Lib.hid (kOf_neg s n (by omega))
    go_enter Try.func12, Try.ntmps12
    go_wp2
    go_ret2
    exact ⟨ret_two rfl HK.out.symm, 0, rfl⟩
end Go.Proofs.Ytbmihbmhpmmdcaa
