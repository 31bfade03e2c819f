/- The contracts of the octets' functions at every argument, of the program and of the reference alike. Conditions: a slice that comes in reads as a list of bytes, of at most 2^30 bytes where it is copied. -/
import Derived.Test.YtaoiekcoiooghaaVar
import Derived.Test.YtaoiekcoiooghaaGtx
namespace Go.Proofs.Ytaoiekcoiooghaa
open Go.RowKit

def PutOk (n size : Int) : Prop := 1 ≤ size ∧ size ≤ 6 ∧ 0 ≤ n ∧ n < ((256 ^ size.toNat : Nat) : Int)
instance (n size : Int) : Decidable (PutOk n size) := by unfold PutOk; infer_instance
/-- What Put returns: the bytes, and the error. -/
def putL (l : List UInt8) (n size : Int) : List UInt8 := if PutOk n size then l ++ be n.toNat size.toNat else []
def putE (n size : Int) : Int := if PutOk n size then 0 else 1
/-- What Get returns. -/
def getV (l : List UInt8) (a k : Int) : Int := if 1 ≤ k ∧ k ≤ 6 ∧ 0 ≤ a ∧ a + k ≤ (l.length : Int) then ((beVal ((l.drop a.toNat).take k.toNat) : Nat) : Int) else 0
def getE (l : List UInt8) (a k : Int) : Int := if 1 ≤ k ∧ k ≤ 6 ∧ 0 ≤ a then (if a + k ≤ (l.length : Int) then 0 else 8) else 1
/-- What PutVar returns. -/
def pvL (l : List UInt8) (n : Int) : List UInt8 := if 0 ≤ n ∧ n ≤ 1099511627776 then l ++ grp 5 n.toNat else []
def pvE (n : Int) : Int := if 0 ≤ n ∧ n ≤ 1099511627776 then 0 else 1
/-- What GetVar returns. -/
def gvA (l : List UInt8) (a : Int) : Int × Int × Int := if 0 ≤ a then gvR l a.toNat else (0, 0, 1)
/-- What PutText returns. -/
def ptL (l s : List UInt8) (most : Int) : List UInt8 := if 0 ≤ most ∧ most ≤ 255 ∧ (s.length : Int) ≤ most then l ++ txt s else []
def ptE (s : List UInt8) (most : Int) : Int := if 0 ≤ most ∧ most ≤ 255 then (if (s.length : Int) ≤ most then 0 else 2) else 1
/-- What GetText returns. -/
def gtA (l : List UInt8) (a most : Int) : List UInt8 × Int × Int := if 0 ≤ most ∧ most ≤ 255 ∧ 0 ≤ a then gtR l a.toNat most.toNat else ([], 0, 1)

theorem retB_nil (w : World) (l : List UInt8) (c c' : Int) (e : Ending) (w' : World) (he : e = .returned (.tuple #[.slice none 0 0, .int .i64 c])) (hw : w = w') (hl : l = []) (hc : c = c') : RetB w l c' e w' := by
  subst hl hc hw
  exact ⟨_, he, OwnB.nil _ _, Below.refl _ _⟩

theorem put_any (l : List UInt8) (B : Nat) (A : Option Addr) (len c : Nat) (n size : Int) (w : World) (hr : Reads w B A len (bvs l)) (hn : len ≤ 1073741824) :
    Calls Try.prog 39 #[.slice A len c, .int .i64 n, .int .i64 size] w (RetB w (putL l n size) (putE n size)) := by
  by_cases h : PutOk n size
  · have h0 := h
    obtain ⟨h1, h2, h3, h4⟩ := h0
    obtain ⟨N, rfl⟩ := Int.eq_ofNat_of_zero_le h3
    obtain ⟨k, rfl⟩ := Int.eq_ofNat_of_zero_le (show 0 ≤ size by omega)
    have e1 : putL l (N : Int) (k : Int) = l ++ be N k := by rw [putL, if_pos h, Int.toNat_natCast, Int.toNat_natCast]
    have e2 : putE (N : Int) (k : Int) = 0 := by rw [putE, if_pos h]
    rw [e1, e2]
    rw [Int.toNat_natCast] at h4
    exact put_ok l B A len c N k w hr hn (by omega) (by omega) (Int.ofNat_lt.1 h4)
  · exact (put_err A len c n size w h).mono fun e w' ⟨he, hw⟩ => retB_nil _ _ _ _ _ _ he hw (by rw [putL, if_neg h]) (by rw [putE, if_neg h])

theorem rput_any (l : List UInt8) (B : Nat) (A : Option Addr) (len c : Nat) (n size : Int) (w : World) (hr : Reads w B A len (bvs l)) (hn : len ≤ 1073741824) :
    Calls Try.prog 55 #[.slice A len c, .int .i64 n, .int .i64 size] w (RetB w (putL l n size) (putE n size)) := by
  by_cases h : PutOk n size
  · have h0 := h
    obtain ⟨h1, h2, h3, h4⟩ := h0
    obtain ⟨N, rfl⟩ := Int.eq_ofNat_of_zero_le h3
    obtain ⟨k, rfl⟩ := Int.eq_ofNat_of_zero_le (show 0 ≤ size by omega)
    have e1 : putL l (N : Int) (k : Int) = l ++ be N k := by rw [putL, if_pos h, Int.toNat_natCast, Int.toNat_natCast]
    have e2 : putE (N : Int) (k : Int) = 0 := by rw [putE, if_pos h]
    rw [e1, e2]
    rw [Int.toNat_natCast] at h4
    exact rput_ok l B A len c N k w hr hn (by omega) (by omega) (Int.ofNat_lt.1 h4)
  · exact (rput_err A len c n size w h).mono fun e w' ⟨he, hw⟩ => retB_nil _ _ _ _ _ _ he hw (by rw [putL, if_neg h]) (by rw [putE, if_neg h])

theorem get_any (l : List UInt8) (B : Nat) (A : Option Addr) (len c : Nat) (a k : Int) (w : World) (hr : Reads w B A len (bvs l)) (hc : len ≤ c) (hcm : c ≤ maxLen) (ha : a ≤ 9223372036854775807) :
    Calls Try.prog 56 #[.slice A len c, .int .i64 a, .int .i64 k] w fun e w' => e = .returned (.tuple #[.int .i64 (getV l a k), .int .i64 (getE l a k)]) ∧ w = w' := by
  have hln : l.length = len := by have := hr.1; rwa [bvs_length] at this
  by_cases h : 1 ≤ k ∧ k ≤ 6 ∧ 0 ≤ a
  · by_cases h2 : a + k ≤ (l.length : Int)
    · have e1 : getV l a k = ((beVal ((l.drop a.toNat).take k.toNat) : Nat) : Int) := by rw [getV, if_pos ⟨h.1, h.2.1, h.2.2, h2⟩]
      have e2 : getE l a k = 0 := by rw [getE, if_pos h, if_pos h2]
      rw [e1, e2]
      obtain ⟨N, rfl⟩ := Int.eq_ofNat_of_zero_le h.2.2
      obtain ⟨K, rfl⟩ := Int.eq_ofNat_of_zero_le (show 0 ≤ k by omega)
      rw [Int.toNat_natCast, Int.toNat_natCast]
      exact get_ok l B A len c N K w hr hc hcm (by omega) (by omega) (by omega)
    · have e1 : getV l a k = 0 := by rw [getV, if_neg (fun x => h2 x.2.2.2)]
      have e2 : getE l a k = 8 := by rw [getE, if_pos h, if_neg h2]
      rw [e1, e2]
      exact get_syntax A len c a k w (Nat.le_trans hc hcm) ha h.1 h.2.1 h.2.2 (by omega)
  · have e1 : getV l a k = 0 := by rw [getV, if_neg (fun x => h ⟨x.1, x.2.1, x.2.2.1⟩)]
    have e2 : getE l a k = 1 := by rw [getE, if_neg h]
    rw [e1, e2]
    exact get_range A len c a k w h

theorem rget_any (l : List UInt8) (B : Nat) (A : Option Addr) (len c : Nat) (a k : Int) (w : World) (hr : Reads w B A len (bvs l)) (hc : len ≤ c) (hcm : c ≤ maxLen) (ha : a ≤ 9223372036854775807) :
    Calls Try.prog 57 #[.slice A len c, .int .i64 a, .int .i64 k] w fun e w' => e = .returned (.tuple #[.int .i64 (getV l a k), .int .i64 (getE l a k)]) ∧ w = w' := by
  have hln : l.length = len := by have := hr.1; rwa [bvs_length] at this
  by_cases h : 1 ≤ k ∧ k ≤ 6 ∧ 0 ≤ a
  · by_cases h2 : a + k ≤ (l.length : Int)
    · have e1 : getV l a k = ((beVal ((l.drop a.toNat).take k.toNat) : Nat) : Int) := by rw [getV, if_pos ⟨h.1, h.2.1, h.2.2, h2⟩]
      have e2 : getE l a k = 0 := by rw [getE, if_pos h, if_pos h2]
      rw [e1, e2]
      obtain ⟨N, rfl⟩ := Int.eq_ofNat_of_zero_le h.2.2
      obtain ⟨K, rfl⟩ := Int.eq_ofNat_of_zero_le (show 0 ≤ k by omega)
      rw [Int.toNat_natCast, Int.toNat_natCast]
      exact rget_ok l B A len c N K w hr hc hcm (by omega) (by omega) (by omega)
    · have e1 : getV l a k = 0 := by rw [getV, if_neg (fun x => h2 x.2.2.2)]
      have e2 : getE l a k = 8 := by rw [getE, if_pos h, if_neg h2]
      rw [e1, e2]
      exact rget_syntax A len c a k w (Nat.le_trans hc hcm) ha h.1 h.2.1 h.2.2 (by omega)
  · have e1 : getV l a k = 0 := by rw [getV, if_neg (fun x => h ⟨x.1, x.2.1, x.2.2.1⟩)]
    have e2 : getE l a k = 1 := by rw [getE, if_neg h]
    rw [e1, e2]
    exact rget_range A len c a k w h

theorem putvar_any (l : List UInt8) (B : Nat) (A : Option Addr) (len c : Nat) (n : Int) (w : World) (hr : Reads w B A len (bvs l)) (hn : len ≤ 1073741824) :
    Calls Try.prog 51 #[.slice A len c, .int .i64 n] w (RetB w (pvL l n) (pvE n)) := by
  by_cases h : 0 ≤ n ∧ n ≤ 1099511627776
  · have e1 : pvL l n = l ++ grp 5 n.toNat := by rw [pvL, if_pos h]
    have e2 : pvE n = 0 := by rw [pvE, if_pos h]
    rw [e1, e2]
    obtain ⟨N, rfl⟩ := Int.eq_ofNat_of_zero_le h.1
    rw [Int.toNat_natCast]
    exact putvar_ok l B A len c N w hr hn (by omega)
  · exact (putvar_err A len c n w (by omega)).mono fun e w' ⟨he, hw⟩ => retB_nil _ _ _ _ _ _ he hw (by rw [pvL, if_neg h]) (by rw [pvE, if_neg h])

theorem rputvar_any (l : List UInt8) (B : Nat) (A : Option Addr) (len c : Nat) (n : Int) (w : World) (hr : Reads w B A len (bvs l)) (hn : len ≤ 1073741824) :
    Calls Try.prog 52 #[.slice A len c, .int .i64 n] w (RetB w (pvL l n) (pvE n)) := by
  by_cases h : 0 ≤ n ∧ n ≤ 1099511627776
  · have e1 : pvL l n = l ++ grp 5 n.toNat := by rw [pvL, if_pos h]
    have e2 : pvE n = 0 := by rw [pvE, if_pos h]
    rw [e1, e2]
    obtain ⟨N, rfl⟩ := Int.eq_ofNat_of_zero_le h.1
    rw [Int.toNat_natCast]
    exact rputvar_ok l B A len c N w hr hn (by omega)
  · exact (rputvar_err A len c n w (by omega)).mono fun e w' ⟨he, hw⟩ => retB_nil _ _ _ _ _ _ he hw (by rw [pvL, if_neg h]) (by rw [pvE, if_neg h])

theorem getvar_all (l : List UInt8) (B : Nat) (A : Option Addr) (len c : Nat) (a : Int) (w : World) (hr : Reads w B A len (bvs l)) (hcm : len ≤ maxLen) (ha : a ≤ 9223372036854775807) :
    Calls Try.prog 53 #[.slice A len c, .int .i64 a] w fun e w' => e = .returned (.tuple #[.int .i64 (gvA l a).1, .int .i64 (gvA l a).2.1, .int .i64 (gvA l a).2.2]) ∧ w = w' := by
  by_cases h : 0 ≤ a
  · have e1 : gvA l a = gvR l a.toNat := by rw [gvA, if_pos h]
    rw [e1]
    obtain ⟨N, rfl⟩ := Int.eq_ofNat_of_zero_le h
    rw [Int.toNat_natCast]
    exact getvar_any l B A len c N w hr hcm (by omega)
  · have e1 : gvA l a = (0, 0, 1) := by rw [gvA, if_neg h]
    rw [e1]
    exact getvar_neg A len c a w (by omega)

theorem rgetvar_all (l : List UInt8) (B : Nat) (A : Option Addr) (len c : Nat) (a : Int) (w : World) (hr : Reads w B A len (bvs l)) (hcm : len ≤ maxLen) (ha : a ≤ 9223372036854775807) :
    Calls Try.prog 54 #[.slice A len c, .int .i64 a] w fun e w' => e = .returned (.tuple #[.int .i64 (gvA l a).1, .int .i64 (gvA l a).2.1, .int .i64 (gvA l a).2.2]) ∧ w = w' := by
  by_cases h : 0 ≤ a
  · have e1 : gvA l a = gvR l a.toNat := by rw [gvA, if_pos h]
    rw [e1]
    obtain ⟨N, rfl⟩ := Int.eq_ofNat_of_zero_le h
    rw [Int.toNat_natCast]
    exact rgetvar_any l B A len c N w hr hcm (by omega)
  · have e1 : gvA l a = (0, 0, 1) := by rw [gvA, if_neg h]
    rw [e1]
    exact rgetvar_neg A len c a w (by omega)

theorem puttext_any (l : List UInt8) (B : Nat) (A : Option Addr) (len c : Nat) (s : ByteArray) (most : Int) (w : World) (hr : Reads w B A len (bvs l)) (hn : len ≤ 1073741824) :
    Calls Try.prog 58 #[.slice A len c, .string s, .int .i64 most] w (RetB w (ptL l s.data.toList most) (ptE s.data.toList most)) := by
  have hs := data_length s
  by_cases h : 0 ≤ most ∧ most ≤ 255
  · by_cases h2 : (s.data.toList.length : Int) ≤ most
    · have e1 : ptL l s.data.toList most = l ++ txt s.data.toList := by rw [ptL, if_pos ⟨h.1, h.2, h2⟩]
      have e2 : ptE s.data.toList most = 0 := by rw [ptE, if_pos h, if_pos h2]
      rw [e1, e2]
      exact puttext_ok l B A len c s most w hr hn h.2 (by omega)
    · exact (puttext_long A len c s most w h.1 h.2 (by omega)).mono fun e w' ⟨he, hw⟩ => retB_nil _ _ _ _ _ _ he hw (by rw [ptL, if_neg (fun x => h2 x.2.2)]) (by rw [ptE, if_pos h, if_neg h2])
  · exact (puttext_range A len c s most w (by omega)).mono fun e w' ⟨he, hw⟩ => retB_nil _ _ _ _ _ _ he hw (by rw [ptL, if_neg (fun x => h ⟨x.1, x.2.1⟩)]) (by rw [ptE, if_neg h])

theorem rputtext_any (l : List UInt8) (B : Nat) (A : Option Addr) (len c : Nat) (s : ByteArray) (most : Int) (w : World) (hr : Reads w B A len (bvs l)) (hn : len ≤ 1073741824) :
    Calls Try.prog 59 #[.slice A len c, .string s, .int .i64 most] w (RetB w (ptL l s.data.toList most) (ptE s.data.toList most)) := by
  have hs := data_length s
  by_cases h : 0 ≤ most ∧ most ≤ 255
  · by_cases h2 : (s.data.toList.length : Int) ≤ most
    · have e1 : ptL l s.data.toList most = l ++ txt s.data.toList := by rw [ptL, if_pos ⟨h.1, h.2, h2⟩]
      have e2 : ptE s.data.toList most = 0 := by rw [ptE, if_pos h, if_pos h2]
      rw [e1, e2]
      exact rputtext_ok l B A len c s most w hr hn h.2 (by omega)
    · exact (rputtext_long A len c s most w h.1 h.2 (by omega)).mono fun e w' ⟨he, hw⟩ => retB_nil _ _ _ _ _ _ he hw (by rw [ptL, if_neg (fun x => h2 x.2.2)]) (by rw [ptE, if_pos h, if_neg h2])
  · exact (rputtext_range A len c s most w (by omega)).mono fun e w' ⟨he, hw⟩ => retB_nil _ _ _ _ _ _ he hw (by rw [ptL, if_neg (fun x => h ⟨x.1, x.2.1⟩)]) (by rw [ptE, if_neg h])

theorem gettext_all (l : List UInt8) (B : Nat) (A : Option Addr) (len c : Nat) (a most : Int) (w : World) (hr : Reads w B A len (bvs l)) (hc : len ≤ c) (hcm : c ≤ maxLen) (ha : a ≤ 9223372036854775807) :
    Calls Try.prog 60 #[.slice A len c, .int .i64 a, .int .i64 most] w fun e w' => e = .returned (.tuple #[.string (bstr (gtA l a most).1), .int .i64 (gtA l a most).2.1, .int .i64 (gtA l a most).2.2]) ∧ w = w' := by
  by_cases h : 0 ≤ most ∧ most ≤ 255 ∧ 0 ≤ a
  · have e1 : gtA l a most = gtR l a.toNat most.toNat := by rw [gtA, if_pos h]
    rw [e1]
    obtain ⟨N, rfl⟩ := Int.eq_ofNat_of_zero_le h.2.2
    obtain ⟨M, rfl⟩ := Int.eq_ofNat_of_zero_le h.1
    rw [Int.toNat_natCast, Int.toNat_natCast]
    exact gettext_any l B A len c N M w hr hc hcm (by omega) (by omega)
  · have e1 : gtA l a most = ([], 0, 1) := by rw [gtA, if_neg h]
    rw [e1]
    exact gettext_range A len c a most w (by omega)

theorem rgettext_all (l : List UInt8) (B : Nat) (A : Option Addr) (len c : Nat) (a most : Int) (w : World) (hr : Reads w B A len (bvs l)) (hc : len ≤ c) (hcm : c ≤ maxLen) (ha : a ≤ 9223372036854775807) :
    Calls Try.prog 61 #[.slice A len c, .int .i64 a, .int .i64 most] w fun e w' => e = .returned (.tuple #[.string (bstr (gtA l a most).1), .int .i64 (gtA l a most).2.1, .int .i64 (gtA l a most).2.2]) ∧ w = w' := by
  by_cases h : 0 ≤ most ∧ most ≤ 255 ∧ 0 ≤ a
  · have e1 : gtA l a most = gtR l a.toNat most.toNat := by rw [gtA, if_pos h]
    rw [e1]
    obtain ⟨N, rfl⟩ := Int.eq_ofNat_of_zero_le h.2.2
    obtain ⟨M, rfl⟩ := Int.eq_ofNat_of_zero_le h.1
    rw [Int.toNat_natCast, Int.toNat_natCast]
    exact rgettext_any l B A len c N M w hr hc hcm (by omega) (by omega)
  · have e1 : gtA l a most = ([], 0, 1) := by rw [gtA, if_neg h]
    rw [e1]
    exact rgettext_range A len c a most w (by omega)

end Go.Proofs.Ytaoiekcoiooghaa
