/- The contracts of PutText and GetText, of the program and of the reference. Conditions: the slice reads as a list of bytes, of at most 2^30 where it is copied. -/
import Derived.Test.YtaoiekcoiooghaaOct
namespace Go.Proofs.Ytaoiekcoiooghaa
open Go.RowKit
theorem length_yes (n : Int) (w : World) (h1 : 0 ≤ n) (h2 : n ≤ 255) : Calls Try.prog 98 #[.int .i64 n] w fun e w' => e = .returned (.bool true) ∧ w = w' := by
  go_enter Try.func98, Try.ntmps98
  go_wp2
  go_ret
  exact ⟨by simp, rfl⟩
theorem length_no (n : Int) (w : World) (h : n < 0 ∨ 255 < n) : Calls Try.prog 98 #[.int .i64 n] w fun e w' => e = .returned (.bool false) ∧ w = w' := by
  rcases h with h | h
  all_goals
    go_enter Try.func98, Try.ntmps98
    go_wp2
    all_goals (go_ret; exact ⟨by simp <;> omega, rfl⟩)
set_option maxHeartbeats 1000000 in
theorem puttext_ok (l : List UInt8) (B : Nat) (A : Option Addr) (len c : Nat) (s : ByteArray) (most : Int) (w : World) (hr : Reads w B A len (bvs l)) (hn : len ≤ 1073741824) (h1 : most ≤ 255) (h2 : (s.size : Int) ≤ most) :
    Calls Try.prog 58 #[.slice A len c, .string s, .int .i64 most] w (RetB w (l ++ txt s.data.toList) 0) := by
  have hlen : l.length = len := by have := hr.1; rwa [bvs_length] at this
  have hl : l.length ≤ 1073741824 := by omega
  have HL := hide hlen
  have HT : Hid (txt s.data.toList = UInt8.ofNat s.size :: s.data.toList) := hide (by rw [txt, data_length])
  clear hlen
  go_enter Try.func58, Try.ntmps58
  go_wp2_with (first
    | (go_at_call 98; refine (length_yes _ _ (by omega) (by omega)).mono ?_; rintro e w' ⟨rfl, rfl⟩)
    | (at_builtin; refine wpList_app rfl _ _ rfl (OwnB.nil w w.heap.size) rfl hr rfl (by simp only [List.length_nil]; omega) (Nat.le_refl _) ?_; intro v1 w1 hown1 hg1 hb1 hat1; have hsz1 := hb1.size)
    | (at_builtin; refine wpList_app rfl _ _ rfl (hown1.alloc _) rfl (reads_lit1 w1 _ (UInt8.ofNat s.size) (byte_len (by omega))) rfl (by simp only [List.length_append, List.length_cons, List.length_nil]; omega) (by simp; omega) ?_; intro v2 w2 hown2 hg2 hb2 hat2; have hsz2 := hb2.size)
    | (at_builtin; refine wpList_app_str rfl _ _ rfl hown2 rfl rfl (by simp only [List.length_append, List.length_cons, List.length_nil]; omega) (by simp at hsz2; omega) ?_; intro v3 w3 hown3 hg3 hb3))
  go_ret2
  exact ⟨_, rfl, by rw [HT.out]; simpa using hown3, ((hb1.alloc hsz1 _).trans hb2).trans hb3⟩
set_option maxHeartbeats 1000000 in
theorem puttext_range (A : Option Addr) (len c : Nat) (s : ByteArray) (most : Int) (w : World) (h1 : most < 0 ∨ 255 < most) :
    Calls Try.prog 58 #[.slice A len c, .string s, .int .i64 most] w fun e w' => e = .returned (.tuple #[.slice none 0 0, .int .i64 1]) ∧ w = w' := by
  go_enter Try.func58, Try.ntmps58
  go_wp2_with (go_at_call 98; refine (length_no _ _ h1).mono ?_; rintro e w' ⟨rfl, rfl⟩)
  go_ret2
  exact ⟨rfl, rfl⟩
set_option maxHeartbeats 1000000 in
theorem puttext_long (A : Option Addr) (len c : Nat) (s : ByteArray) (most : Int) (w : World) (h1 : 0 ≤ most) (h2 : most ≤ 255) (h3 : most < (s.size : Int)) :
    Calls Try.prog 58 #[.slice A len c, .string s, .int .i64 most] w fun e w' => e = .returned (.tuple #[.slice none 0 0, .int .i64 2]) ∧ w = w' := by
  go_enter Try.func58, Try.ntmps58
  go_wp2_with (go_at_call 98; refine (length_yes _ _ h1 h2).mono ?_; rintro e w' ⟨rfl, rfl⟩)
  go_ret2
  exact ⟨rfl, rfl⟩
set_option maxHeartbeats 1000000 in
theorem rputtext_ok (l : List UInt8) (B : Nat) (A : Option Addr) (len c : Nat) (s : ByteArray) (most : Int) (w : World) (hr : Reads w B A len (bvs l)) (hn : len ≤ 1073741824) (h1 : most ≤ 255) (h2 : (s.size : Int) ≤ most) :
    Calls Try.prog 59 #[.slice A len c, .string s, .int .i64 most] w (RetB w (l ++ txt s.data.toList) 0) := by
  have hlen : l.length = len := by have := hr.1; rwa [bvs_length] at this
  have hl : l.length ≤ 1073741824 := by omega
  have h0 : 0 ≤ most := by omega
  have HL := hide hlen
  have HT : Hid (txt s.data.toList = UInt8.ofNat s.size :: s.data.toList) := hide (by rw [txt, data_length])
  clear hlen
  go_enter Try.func59, Try.ntmps59
  go_wp2_with (first
    | (at_builtin; refine wpList_app rfl _ _ rfl (OwnB.nil w w.heap.size) rfl hr rfl (by simp only [List.length_nil]; omega) (Nat.le_refl _) ?_; intro v1 w1 hown1 hg1 hb1 hat1; have hsz1 := hb1.size)
    | (at_builtin; refine wpList_app rfl _ _ rfl (hown1.alloc _) rfl (reads_lit1 w1 _ (UInt8.ofNat s.size) (byte_len (by omega))) rfl (by simp only [List.length_append, List.length_cons, List.length_nil]; omega) (by simp; omega) ?_; intro v2 w2 hown2 hg2 hb2 hat2; have hsz2 := hb2.size)
    | (at_builtin; refine wpList_app_str rfl _ _ rfl hown2 rfl rfl (by simp only [List.length_append, List.length_cons, List.length_nil]; omega) (by simp at hsz2; omega) ?_; intro v3 w3 hown3 hg3 hb3))
  go_ret2
  exact ⟨_, rfl, by rw [HT.out]; simpa using hown3, ((hb1.alloc hsz1 _).trans hb2).trans hb3⟩
set_option maxHeartbeats 1000000 in
theorem rputtext_range (A : Option Addr) (len c : Nat) (s : ByteArray) (most : Int) (w : World) (h1 : most < 0 ∨ 255 < most) :
    Calls Try.prog 59 #[.slice A len c, .string s, .int .i64 most] w fun e w' => e = .returned (.tuple #[.slice none 0 0, .int .i64 1]) ∧ w = w' := by
  rcases h1 with h1 | h1
  all_goals
    go_enter Try.func59, Try.ntmps59
    go_wp2_with fail
    all_goals (go_ret2; exact ⟨rfl, rfl⟩)
set_option maxHeartbeats 1000000 in
theorem rputtext_long (A : Option Addr) (len c : Nat) (s : ByteArray) (most : Int) (w : World) (h1 : 0 ≤ most) (h2 : most ≤ 255) (h3 : most < (s.size : Int)) :
    Calls Try.prog 59 #[.slice A len c, .string s, .int .i64 most] w fun e w' => e = .returned (.tuple #[.slice none 0 0, .int .i64 2]) ∧ w = w' := by
  go_enter Try.func59, Try.ntmps59
  go_wp2_with fail
  go_ret2
  exact ⟨rfl, rfl⟩
end Go.Proofs.Ytaoiekcoiooghaa
