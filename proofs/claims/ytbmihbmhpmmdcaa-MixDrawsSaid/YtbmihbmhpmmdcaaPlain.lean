/- Plain mathematics of the layer mix: the stirring of a number, the hash of bytes, a number's bytes. No walk stands here. -/
import Derived.WalkKit
import Derived.Laws.Bits64
namespace Go.Proofs.Ytbmihbmhpmmdcaa.Pl

def stir (x : Nat) : Nat :=
  ((((x ^^^ x / 1073741824) * 13787848793156543929 % 18446744073709551616) ^^^ ((x ^^^ x / 1073741824) * 13787848793156543929 % 18446744073709551616) / 134217728) * 10723151780598845931 % 18446744073709551616) ^^^
  ((((x ^^^ x / 1073741824) * 13787848793156543929 % 18446744073709551616) ^^^ ((x ^^^ x / 1073741824) * 13787848793156543929 % 18446744073709551616) / 134217728) * 10723151780598845931 % 18446744073709551616) / 2147483648

def stirI (y : Int) : Int := (stir y.toNat : Int)

theorem stir_lt (x : Nat) : stir x < 18446744073709551616 := by
  unfold stir
  have h : ∀ b : Nat, b < 2 ^ 64 → b ^^^ b / 2147483648 < 2 ^ 64 := fun b hb => Nat.xor_lt_two_pow hb (Nat.lt_of_le_of_lt (Nat.div_le_self _ _) hb)
  exact h _ (Nat.mod_lt _ (by decide))

theorem stirI_nonneg (y : Int) : 0 ≤ stirI y := by unfold stirI; omega
theorem stirI_lt (y : Int) : stirI y < 18446744073709551616 := by unfold stirI; have := stir_lt y.toNat; omega

theorem step1 (X : Nat) (hX : X < 18446744073709551616) :
    IntKind.u64.wrap (bits .xor .u64 (X : Int) ((X : Int) / 1073741824) * 13787848793156543929) = (((X ^^^ X / 1073741824) * 13787848793156543929 % 18446744073709551616 : Nat) : Int) :=
  mixStep_u64 X 1073741824 13787848793156543929 hX
theorem step2 (X : Nat) (hX : X < 18446744073709551616) :
    IntKind.u64.wrap (bits .xor .u64 (X : Int) ((X : Int) / 134217728) * 10723151780598845931) = (((X ^^^ X / 134217728) * 10723151780598845931 % 18446744073709551616 : Nat) : Int) :=
  mixStep_u64 X 134217728 10723151780598845931 hX
theorem step3 (X : Nat) (hX : X < 18446744073709551616) :
    bits .xor .u64 (X : Int) ((X : Int) / 2147483648) = ((X ^^^ X / 2147483648 : Nat) : Int) :=
  xorShift_u64 X 2147483648 hX

/-- The walk's own spelling of the stirring. -/
theorem stir_eq (y : Int) (h0 : 0 ≤ y) (h1 : y < 18446744073709551616) :
    bits BinOp.xor IntKind.u64
      (IntKind.u64.wrap (bits BinOp.xor IntKind.u64 (IntKind.u64.wrap (bits BinOp.xor IntKind.u64 y (y / 1073741824) * 13787848793156543929))
        (IntKind.u64.wrap (bits BinOp.xor IntKind.u64 y (y / 1073741824) * 13787848793156543929) / 134217728) * 10723151780598845931))
      (IntKind.u64.wrap (bits BinOp.xor IntKind.u64 (IntKind.u64.wrap (bits BinOp.xor IntKind.u64 y (y / 1073741824) * 13787848793156543929))
        (IntKind.u64.wrap (bits BinOp.xor IntKind.u64 y (y / 1073741824) * 13787848793156543929) / 134217728) * 10723151780598845931) / 2147483648) = stirI y := by
  obtain ⟨x, rfl⟩ := Int.eq_ofNat_of_zero_le h0
  rw [step1 x (by omega), step2 _ (Nat.mod_lt _ (by decide)), step3 _ (Nat.mod_lt _ (by decide))]
  rfl

def stepH (x c : Int) : Int := IntKind.u64.wrap (bits .xor .u64 x c * 1099511628211)
theorem stepH_bd (x c : Int) : 0 ≤ stepH x c ∧ stepH x c < 18446744073709551616 := by
  unfold stepH; rw [IntKind.wrap_u64]; omega
def foldH (l : List Int) : Int := l.foldl stepH 14695981039346656037
theorem foldH_bd (l : List Int) : 0 ≤ foldH l ∧ foldH l < 18446744073709551616 := by
  unfold foldH
  rcases List.eq_nil_or_concat l with rfl | ⟨l', c, rfl⟩
  · decide
  · rw [List.concat_eq_append, List.foldl_append]; exact stepH_bd _ _
theorem foldH_snoc (l : List Int) (c : Int) : foldH (l ++ [c]) = stepH (foldH l) c := by simp [foldH, List.foldl_append]
theorem foldH_take (l : List Int) (k : Nat) (h : k < l.length) : foldH (l.take (k + 1)) = stepH (foldH (l.take k)) l[k] := by
  rw [List.take_succ_eq_append_getElem h, foldH_snoc]
def hash (l : List Int) : Int := stirI (foldH l)

/-- The bytes of a number, the lowest first: so many. -/
def bytesOf (n : Int) : Nat → List Int
  | 0 => []
  | k + 1 => bytesOf n k ++ [n / 2 ^ (8 * k) % 256]
theorem bytesOf_length (n : Int) (k : Nat) : (bytesOf n k).length = k := by
  induction k with
  | zero => rfl
  | succ k ih => simp [bytesOf, ih]
theorem bytesOf_bd (n : Int) (k : Nat) : ∀ z ∈ bytesOf n k, 0 ≤ z ∧ z < 256 := by
  induction k with
  | zero => intro z h; cases h
  | succ k ih =>
    intro z h
    rcases List.mem_append.1 h with h | h
    · exact ih z h
    · simp only [List.mem_singleton] at h; omega

def u64 (n : Int) : Int := IntKind.u64.wrap n
theorem u64_bd (n : Int) : 0 ≤ IntKind.u64.wrap n ∧ IntKind.u64.wrap n < 18446744073709551616 := by rw [IntKind.wrap_u64]; omega
def weight (node work salt : Int) : Int := hash (bytesOf (u64 node) 8 ++ bytesOf (u64 work) 8 ++ bytesOf salt 8)

theorem weight_alive : (weight 0 1 2 == weight 1 0 2) = false := by decide +kernel
theorem hash_alive : (hash [1] == hash [2]) = false := by decide +kernel

def golden (x : Int) : Int := IntKind.u64.wrap (x + 11400714819323198485)
theorem golden_bd (x : Int) : 0 ≤ IntKind.u64.wrap (x + 11400714819323198485) ∧ IntKind.u64.wrap (x + 11400714819323198485) < 18446744073709551616 := by rw [IntKind.wrap_u64]; omega
theorem golden_bd' (x : Int) : 0 ≤ golden x ∧ golden x < 18446744073709551616 := golden_bd x
theorem golden_apart (x : Int) : (IntKind.u64.wrap (golden x - x) == IntKind.u64.wrap (golden (golden x) - golden x)) = true := by
  rw [beq_iff_eq]; unfold golden; rw [IntKind.wrap_u64, IntKind.wrap_u64, IntKind.wrap_u64, IntKind.wrap_u64]; omega
theorem golden_ne (x : Int) (h0 : 0 ≤ x) (h1 : x < 18446744073709551616) : (golden x != x) = true := by
  rw [bne_iff_ne]; unfold golden; rw [IntKind.wrap_u64]; omega
end Go.Proofs.Ytbmihbmhpmmdcaa.Pl
