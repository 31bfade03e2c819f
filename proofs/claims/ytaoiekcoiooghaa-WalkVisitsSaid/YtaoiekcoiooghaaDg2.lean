/- The contracts of the hash, the check number, the route of an id and a route within a span, of the program and of the reference. Condition: a slice that comes in reads as a list of bytes. -/
import Derived.Test.YtaoiekcoiooghaaOct
namespace Go.Proofs.Ytaoiekcoiooghaa
open Go.RowKit

theorem digsum_any (l : List UInt8) (B : Nat) (A : Option Addr) (n c : Nat) (w : World) (hr : Reads w B A n (bvs l)) (hn : n ≤ maxLen) :
    Calls Try.prog 43 #[.slice A n c] w fun e w' => e = .returned (.int .i64 (fsum l : Nat)) ∧ w = w' := by
  have hlt := fnv_lt 2166136261 l (by decide)
  have hlt' : ((fnv 2166136261 l : Nat) : Int) ≤ 4294967295 := by omega
  have HF : Hid (fsum l = fnv 2166136261 l) := hide (by rw [fsum])
  clear hlt
  go_enter Try.func43, Try.ntmps43
  go_wp2_with (go_at_call 96; refine (sum_any 2166136261 l B A n c w (by decide) hr hn).mono ?_; rintro e w' ⟨rfl, rfl⟩)
  go_ret
  exact ⟨ret_int (by rw [HF.out]), rfl⟩

theorem digcheck_any (l : List UInt8) (B : Nat) (A : Option Addr) (n c : Nat) (w : World) (hr : Reads w B A n (bvs l)) (hB : B ≤ w.heap.size) (hn : n ≤ maxLen) :
    Calls Try.prog 45 #[.slice A n c] w fun e w' => e = .returned (.int .i64 (fcheck l : Nat)) ∧ Below w.heap.size w w' := by
  have hl0 := fnv_lt 2166136261 [90] (by decide)
  have hlt := fnv_lt (fnv 2166136261 [90]) l hl0
  have hlt' : ((fnv (fnv 2166136261 [90]) l : Nat) : Int) ≤ 4294967295 := by omega
  have HF : Hid (fcheck l = fnv (fnv 2166136261 [90]) l) := hide (by rw [fcheck, fsum, ← fnv_append]; rfl)
  have H0 := hide hl0
  clear hlt hl0
  go_enter Try.func45, Try.ntmps45
  go_wp2_with fail
  refine (sum_any 2166136261 [90] _ _ _ _ _ (by decide) (reads_lit1 w 90 90 (by decide)) (by decide)).mono ?_
  rintro e w' ⟨rfl, rfl⟩
  go_wp2_with fail
  refine (sum_any (fnv 2166136261 [90]) l B A n c _ H0.out (hr.alloc hB _) hn).mono ?_
  rintro e w' ⟨rfl, rfl⟩
  go_wp2_with fail
  go_ret
  exact ⟨ret_int (by rw [HF.out]), (Below.refl _ _).alloc (Nat.le_refl _) _⟩

theorem refcheck_any (l : List UInt8) (B : Nat) (A : Option Addr) (n c : Nat) (w : World) (hr : Reads w B A n (bvs l)) (hB : B ≤ w.heap.size) (hn : n ≤ 1073741824) :
    Calls Try.prog 46 #[.slice A n c] w fun e w' => e = .returned (.int .i64 (fcheck l : Nat)) ∧ Below w.heap.size w w' := by
  have hln : l.length = n := by have := hr.1; rwa [bvs_length] at this
  have hl : l.length ≤ 1073741824 := by omega
  have HF : Hid (fcheck l = fsum (90 :: l)) := hide (by rw [fcheck])
  have HL := hide hln
  clear hln
  have hown : OwnB (w.alloc (.cells #[.int .u8 90] 5)) w.heap.size (.slice (some ⟨w.heap.size, 0, none⟩) 1 1) [90] := World.ownsRow_lit w #[.int .u8 90] 1 (Nat.le_refl _) (by decide) rfl
  go_enter Try.func46, Try.ntmps46
  go_wp2_with (first
    | (at_builtin; refine wpList_app rfl _ _ rfl hown rfl (hr.alloc hB _) rfl (by simp only [List.length_cons, List.length_nil]; omega) (by simp) ?_; intro v1 w1 hown1 hg1 hb1 hat1; obtain ⟨A1, c1, hv1, hc1, hm1, hr1⟩ := hown1.shape; subst hv1)
    | (go_at_call 44; refine (refsum_any _ _ _ _ _ _ hr1 (by omega)).mono ?_; rintro e w' ⟨rfl, rfl⟩))
  go_ret
  exact ⟨ret_int (by rw [HF.out]), ((Below.refl _ _).alloc (Nat.le_refl _) _).trans hb1⟩

theorem into_any (r l h : Int) (w : World) :
    Calls Try.prog 41 #[.int .i64 r, .int .i64 l, .int .i64 h] w fun e w' => e = .returned (.int .i64 (into r l h)) ∧ w = w' := by
  have i0 : ∀ w, (Instr.index 111 (.agg #[.int .i64 r, .int .i64 l, .int .i64 h]) (.int .i64 0)).run Try.prog w = .ok (.int .i64 r) w := fun _ => by kernel_rfl
  have i1 : ∀ w, (Instr.index 111 (.agg #[.int .i64 r, .int .i64 l, .int .i64 h]) (.int .i64 1)).run Try.prog w = .ok (.int .i64 l) w := fun _ => by kernel_rfl
  have i2 : ∀ w, (Instr.index 111 (.agg #[.int .i64 r, .int .i64 l, .int .i64 h]) (.int .i64 2)).run Try.prog w = .ok (.int .i64 h) w := fun _ => by kernel_rfl
  go_enter Try.func41, Try.ntmps41
  go_wp2
  refine wp_loop_rounds 4 ?_
  rw [rounds_succ]
  go_wp2
  all_goals try (rw [rounds_succ]; go_wp2)
  all_goals try (rw [rounds_succ]; go_wp2)
  all_goals try (rw [rounds_succ]; go_wp2)
  all_goals go_ret
  all_goals (refine ⟨ret_int ?_, rfl⟩; unfold into; have hb := into_mod r l h; (repeat' split) <;> first | rfl | omega | (rw [IntWalk.wrap64_in _ (by omega)]))
theorem refinto_any (r l h : Int) (w : World) :
    Calls Try.prog 64 #[.int .i64 r, .int .i64 l, .int .i64 h] w fun e w' => e = .returned (.int .i64 (into r l h)) ∧ w = w' := by
  go_enter Try.func64, Try.ntmps64
  go_wp2
  all_goals go_ret
  all_goals (refine ⟨ret_int ?_, rfl⟩; unfold into; have hb := into_mod r l h; (repeat' split) <;> first | rfl | omega | (rw [IntWalk.wrap64_in _ (by omega)]))

theorem route_any (id : Int) (w : World) :
    Calls Try.prog 62 #[.int .i64 id] w fun e w' => e = .returned (.int .i64 (routeOf id)) ∧ Below w.heap.size w w' := by
  by_cases h : id < 0 ∨ 1073741824 < id
  · have HR := hide (routeOf_out h)
    rcases h with h | h
    all_goals
      go_enter Try.func62, Try.ntmps62
      go_wp2
      go_ret
      exact ⟨ret_int (by rw [HR.out]), Below.refl _ _⟩
  · obtain ⟨N, rfl⟩ := Int.eq_ofNat_of_zero_le (show 0 ≤ id by omega)
    have hN : N ≤ 1073741824 := by omega
    have HR := hide (routeOf_in hN)
    have hs := fsum_lt (be N 4)
    have hx := route_bits (fsum (be N 4)) hs
    have HN := hide (be_length N 4)
    clear h
    go_enter Try.func62, Try.ntmps62
    go_wp2_with (first
      | (go_at_call 39; refine (put_ok [] 0 none 0 0 N 4 w Reads.none_ (by decide) (by decide) (by decide) (by omega)).mono ?_; rintro e w1 ⟨v1, rfl, hown1, hb1⟩; obtain ⟨A1, c1, hv1, hc1, hm1, hr1⟩ := hown1.shape; subst hv1)
      | (go_at_call 43; refine (digsum_any _ _ _ _ _ _ hr1 (by omega)).mono ?_; rintro e w' ⟨rfl, rfl⟩))
    go_ret
    exact ⟨ret_int (by rw [HR.out]), hb1⟩
theorem refroute_any (id : Int) (w : World) :
    Calls Try.prog 63 #[.int .i64 id] w fun e w' => e = .returned (.int .i64 (routeOf id)) ∧ Below w.heap.size w w' := by
  by_cases h : id < 0 ∨ 1073741824 < id
  · have HR := hide (routeOf_out h)
    rcases h with h | h
    all_goals
      go_enter Try.func63, Try.ntmps63
      go_wp2
      go_ret
      exact ⟨ret_int (by rw [HR.out]), Below.refl _ _⟩
  · obtain ⟨N, rfl⟩ := Int.eq_ofNat_of_zero_le (show 0 ≤ id by omega)
    have hN : N ≤ 1073741824 := by omega
    have HR := hide (routeOf_in hN)
    have hs := fsum_lt (be N 4)
    have hx := route_bits (fsum (be N 4)) hs
    have HN := hide (be_length N 4)
    clear h
    go_enter Try.func63, Try.ntmps63
    go_wp2_with (first
      | (go_at_call 55; refine (rput_ok [] 0 none 0 0 N 4 w Reads.none_ (by decide) (by decide) (by decide) (by omega)).mono ?_; rintro e w1 ⟨v1, rfl, hown1, hb1⟩; obtain ⟨A1, c1, hv1, hc1, hm1, hr1⟩ := hown1.shape; subst hv1)
      | (go_at_call 44; refine (refsum_any _ _ _ _ _ _ hr1 (by omega)).mono ?_; rintro e w' ⟨rfl, rfl⟩))
    go_ret
    exact ⟨ret_int (by rw [HR.out]), hb1⟩

theorem sum97 : fsum [97] = 3826002220 := by decide +kernel
theorem dawake_any (w : World) : Calls Try.prog 42 #[] w fun e w' => e = .returned (.bool true) ∧ Below w.heap.size w w' := by
  have h1 : (((fsum [97] : Nat) : Int) == 3826002220) = true := by rw [sum97]; rfl
  have h2 : (into 70 100 109 == 100) = true := by decide +kernel
  go_enter Try.func42, Try.ntmps42
  go_wp2_with (first
    | (go_at_call 43; refine (digsum_any [97] _ _ _ _ _ (reads_lit1 w 97 97 (by decide)) (by decide)).mono ?_; rintro e w' ⟨rfl, rfl⟩)
    | (go_at_call 41; refine (into_any _ _ _ _).mono ?_; rintro e w' ⟨rfl, rfl⟩))
  go_ret
  exact ⟨rfl, (Below.refl _ _).alloc (Nat.le_refl _) _⟩
end Go.Proofs.Ytaoiekcoiooghaa
