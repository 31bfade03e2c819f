/- The contracts of the hash functions: each returns the hash of the bytes that its slice reads as. Condition: the slice reads as a list of bytes. -/
import Derived.Test.YtaoiekcoiooghaaProg
import Derived.Test.YtaoiekcoiooghaaPlain
import Derived.Test.YtaoiekcoiooghaaMem
import Derived.Handy
import Derived.WalkLawsBesides
import Derived.WalkSpells
namespace Go.Proofs.Ytaoiekcoiooghaa
open Go.RowKit


/-- A step as the walk writes it, on 32 bits. -/
theorem step32 (h : Nat) (x : UInt8) (hh : h < 4294967296) : bits BinOp.xor IntKind.u32 (h : Int) ((x.toNat : Int) % 4294967296) * 16777619 % 4294967296 = ((fstep h x : Nat) : Int) := by
  have hx := x.toNat_lt
  rw [show ((x.toNat : Int) % 4294967296) = (x.toNat : Int) by omega, u32_xor_nat h x.toNat hh (by omega)]
  unfold fstep
  omega
/-- A step as the walk writes it, on 64 bits. -/
theorem step64 (h : Nat) (x : UInt8) (hh : h < 4294967296) : bits BinOp.and IntKind.i64 (wrap64 (bits BinOp.xor IntKind.i64 (h : Int) (wrap64 (x.toNat : Int)) * 16777619)) 4294967295 = ((fstep h x : Nat) : Int) := by
  have hx := x.toNat_lt
  have hl : h ^^^ x.toNat < 2 ^ 32 := Nat.xor_lt_two_pow (by omega) (by omega)
  rw [IntWalk.wrap64_in (x.toNat : Int) (by omega), i64_xor_nat h x.toNat (by omega) (by omega), i64_and32, IntWalk.wrap64_in _ (by omega)]
  unfold fstep
  omega

theorem sum_any (h : Nat) (l : List UInt8) (B : Nat) (A : Option Addr) (n c : Nat) (w : World) (hh : h < 4294967296) (hr : Reads w B A n (bvs l)) (hn : n ≤ maxLen) :
    Calls Try.prog 96 #[.int .u32 (h : Int), .slice A n c] w fun e w' => e = .returned (.int .u32 (fnv h l : Nat)) ∧ w = w' := by
  unfold maxLen at hn
  have hln : l.length = n := by have := hr.1; rwa [bvs_length] at this
  have HL := hide hln
  clear hln
  go_enter Try.func96, Try.ntmps96
  go_wp2
  go_loop [0, 9] (fun s i => ∃ k : Nat, k ≤ n ∧ i = .int .i64 k ∧ s = .int .u32 (fnv h (l.take k) : Nat)) (fun _ i => n - (intOf i).toNat)
  case atStart => exact ⟨0, Nat.zero_le _, rfl, rfl⟩
  case round =>
    obtain ⟨k, hk, rfl, rfl⟩ := hrel
    have hlt := fnv_lt h (l.take k) hh
    by_cases hlt : k < n
    · obtain ⟨b, o, rfl, _, hc⟩ := hr.at_ hlt
      have hl : k < l.length := by rw [HL.out]; exact hlt
      have hcell := hc k _ (bvs_get l k hl)
      have HF := hide (fnv_take h l k hl)
      clear hr hc
      go_wp2
      go_round
      case rel => exact ⟨k + 1, by omega, by go_num, by rw [HF.out]; exact int_eq (step32 _ _ (by assumption))⟩
      case measure => simp [intOf]; omega
    · go_wp2
      go_ret
      exact ⟨ret_int (by rw [List.take_of_length_le (by rw [HL.out]; omega)]), rfl⟩

theorem refsum_any (l : List UInt8) (B : Nat) (A : Option Addr) (n c : Nat) (w : World) (hr : Reads w B A n (bvs l)) (hn : n ≤ maxLen) :
    Calls Try.prog 44 #[.slice A n c] w fun e w' => e = .returned (.int .i64 (fsum l : Nat)) ∧ w = w' := by
  unfold maxLen at hn
  have hln : l.length = n := by have := hr.1; rwa [bvs_length] at this
  have HL := hide hln
  clear hln
  go_enter Try.func44, Try.ntmps44
  go_wp2
  go_loop [3, 4] (fun s i => ∃ k : Nat, k ≤ n ∧ i = .int .i64 k ∧ s = .int .i64 (fnv 2166136261 (l.take k) : Nat)) (fun _ i => n - (intOf i).toNat)
  case atStart => exact ⟨0, Nat.zero_le _, rfl, rfl⟩
  case round =>
    obtain ⟨k, hk, rfl, rfl⟩ := hrel
    have hlt := fnv_lt 2166136261 (l.take k) (by decide)
    by_cases hlt : k < n
    · obtain ⟨b, o, rfl, _, hc⟩ := hr.at_ hlt
      have hl : k < l.length := by rw [HL.out]; exact hlt
      have hcell := hc k _ (bvs_get l k hl)
      have HF := hide (fnv_take 2166136261 l k hl)
      clear hr hc
      go_wp2
      go_round
      case rel => exact ⟨k + 1, by omega, by go_num, by rw [HF.out]; exact int_eq (step64 _ _ (by assumption))⟩
      case measure => simp [intOf]; omega
    · go_wp2
      go_ret
      exact ⟨ret_int (by rw [List.take_of_length_le (by rw [HL.out]; omega), fsum]), rfl⟩
end Go.Proofs.Ytaoiekcoiooghaa
