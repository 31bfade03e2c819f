/- What the evaluator's operations, regions in order and functions do. No condition. -/
import Derived.Test.YtgaghaggiblabaaGreatDoorEva
set_option linter.all false
namespace Go.Proofs.YtgaghaggiblabaaGreatDoor.Ev
open Go.RowKit
section
variable {P : PX} {o : Oper} {a : Act} {s : St} {wm : Nat} {Kt : Kv} {r : AV × Nat × Hp}
theorem and3 {a b : Bool} (h : and' a b = true) : a = true /\ b = true := by rwa [and'_eq, Bool.and_eq_true] at h
structure IdxOk (P : PX) (T t e m : Nat) : Prop where
 ty : ∃ el, (P.underlying T = some (.slice el) /\ t = 0 \/ P.underlying T = some (.array m el) /\ t = T + 1) /\ e = lcode (lay P el) /\ (P.underlying el).isSome = true /\ tin P el = true /\ tin P T = true
theorem Fixed.part {K : Kap} {c off : Nat} {cs : List Value} (h : Fixed K c off cs) {o n : Nat} (hl : o + n <= cs.length) : Fixed K c (off + o) ((cs.drop o).take n) := by
 obtain ⟨arr, f1, f2⟩ := h
 refine ⟨arr, f1, ?_⟩
 have hl : ((cs.drop o).take n).length = n := by simp; omega
 rw [hl]
 conv => rhs; rw [<- f2]
 rw [take_drop_take _ _ _ _ _ (by omega)]
theorem eIa_ok (hty : TyOk P) (hi : Inv P s) {N : Fr} {T : Tm} (ht : TR P s.K s.ρ N T a) {rec : Rec} {x i : O} {x' i' : Operand} {t e m U : Nat} (ho : o.op = .indexAddr U x' i') (h1 : om x x' = true) (h2 : om i i' = true) (hx : IdxOk P U t e m)
  (h : eIa t e m x i rec T wm s.n s.H Kt = some r) : OpW P o a s wm Kt r := by
 have hv := om_ok h1 ht
 have hj := om_ok h2 ht
 unfold eIa at h
 generalize ev T x = av at h hv
 generalize ev T i = aj at h hj
 cases aj <;> first | (cases h; done) | skip
 rename_i kj nj
 cases nj <;> first | (cases h; done) | skip
 rename_i j
 have hj := hj.int
 obtain ⟨el, hty', rfl, hel, htel, htU⟩ := hx.ty
 obtain ⟨d, hd⟩ := Option.isSome_iff_exists.1 hel
 have hsz := run_sizeOf' hd s.w
 have hsl := szl_lay hty htel hd
 replace h : idx t (lcode (lay P el)) m av j (fun y => Kt y s.n s.H) = some r := h
 have hint : ((Int.ofNat j).toNat) = j := rfl
 have h0 : 0 <= Int.ofNat j := Int.natCast_nonneg j
 have slc : t = 0 -> P.underlying U = some (.slice el) := by
  intro e
  rcases hty' with ⟨h, _⟩ | ⟨_, h⟩
  ·exact h
  ·omega
 have arr : 1 <= t -> P.underlying U = some (.array m el) /\ t = U + 1 := by
  intro e
  rcases hty' with ⟨_, h⟩ | h
  ·omega
  ·exact h
 cases av <;> first | (cases h; done) | skip
 case sv es full =>
  replace h : nth es j (fun a => Bool.rec none (Kt (.pv a) s.n s.H) (and' (Nat.beq t 0) (Nat.beq (lcode (lay P el)) (lc a)))) = some r := h
  obtain ⟨z, hz, h'⟩ := nth_some h
  obtain ⟨hb, hk⟩ := brec_some h'
  obtain ⟨hb1, hb2⟩ := and3 hb
  have ht0 := beq_true.1 hb1
  obtain ⟨l, c, hR, he⟩ := hv.known (by simp) (by simp)
  cases hR with
  | sv g1 g2 g3 g4 g5 =>
   cases g5
   rename_i l' cs c off cap
   obtain ⟨q1, q2, q3⟩ := row_at (rest := []) hty g2 hz
   have hl : l' = lay P el := lcode_inj (by rw [<- lc_eq q1]; exact (beq_true.1 hb2).symm)
   subst hl
   refine .pure hi (v := .pointer (some ⟨c, off + j * P.cellsOf el, none⟩)) ?_ ?_ hk
   ·have hlt : Int.ofNat j < (es.length : Int) := by simpa using q3
    simp only [execOp, ho, he, pk, hj, List.headD_cons, Instr.indexAt, asIntOf, Sem.run_bind, Sem.run_pure, Result.andThen_ok, run_underlying (slc ht0)]
    simp only [h0, hlt, and_self, if_true, Sem.run_bind, hsz, Result.andThen_ok, Sem.run_pure, hint, Addr.add_mid]
   ·have := g1.part (o := j * szl P (lay P el)) (n := szl P (lay P el)) q2
    rw [<- hsl]
    exact VR.of (l := none) (R.pv this q1 .nil)
 case sr b off n cap op tt =>
  obtain ⟨hb, hk⟩ := brec_some h
  have hq1 := and3 hb
  clear hb
  obtain ⟨hb1, hb⟩ := hq1
  have hq2 := and3 hb
  clear hb
  obtain ⟨hb2, hb3⟩ := hq2
  have ht0 := beq_true.1 hb1
  have hjn := Nat.le_of_ble_eq_true hb3
  obtain ⟨l, c, hR, he⟩ := hv.known (by simp) (by simp)
  cases hR with
  | sr g1 g2 g3 g4 g5 g6 g7 =>
   cases g7
   rename_i c l' m' tot ccap
   have hl : l' = lay P el := lcode_inj (beq_true.1 hb2).symm
   subst hl
   have hjn : j < n := hjn
   refine .pure hi (v := .pointer (some ⟨c, (off + j) * szl P (lay P el) + 0, none⟩)) ?_ ?_ hk
   ·have hlt : Int.ofNat j < (n : Int) := by simpa using hjn
    simp only [execOp, ho, he, pk, hj, List.headD_cons, Instr.indexAt, asIntOf, Sem.run_bind, Sem.run_pure, Result.andThen_ok, run_underlying (slc ht0)]
    simp only [h0, hlt, and_self, if_true, Sem.run_bind, hsz, Result.andThen_ok, Sem.run_pure, hint, Addr.add_mid]
    rw [<- hsl, Nat.add_mul, Nat.add_zero]
   ·have hp : poff P (lay P el) [] = some (0, lay P el) := by cases lay P el <;> rfl
    exact VR.of (l := none) (R.ptr g1 (show off + j < _ by omega) hp .nil)
 case ptr b i p tt =>
  obtain ⟨hb, hk⟩ := brec_some h
  have hq1 := and3 hb
  clear hb
  obtain ⟨hb1, hb⟩ := hq1
  have hq2 := and3 hb
  clear hb
  obtain ⟨hb2, hb3⟩ := hq2
  obtain ⟨hU, ht1⟩ := arr (Nat.le_of_ble_eq_true hb1)
  have hjn : j < m := Nat.le_of_ble_eq_true hb3
  obtain ⟨l, c, hR, he⟩ := hv.known (by simp) (by simp)
  cases hR with
  | ptr g1 g2 g3 g4 =>
   cases g4
   rename_i c l' m' tot of k
   have hl : k = some U := lcode_inj (by rw [<- beq_true.1 hb2, ht1]; rfl)
   subst hl
   have hc : comps P U = some (List.replicate m (lay P el)) := by rw [comps_eq htU, hU]
   have hp := poff_snoc g3 hc (f := j) (m := lay P el) (by rw [List.getElem?_replicate, if_pos hjn])
   rw [List.take_replicate, Nat.min_eq_left (by omega), szs_replicate, hsl] at hp
   rw [snoc_eq] at hk
   refine .pure hi (v := .pointer (some ⟨c, i * szl P l' + (of + j * P.cellsOf el), none⟩)) ?_ (VR.of (l := none) (R.ptr g1 g2 hp .nil)) hk
   have hlt : Int.ofNat j < (m : Int) := by simpa using hjn
   simp only [execOp, ho, he, pk, hj, List.headD_cons, Instr.indexAt, asIntOf, Instr.sureAddr, Sem.run_bind, Sem.run_pure, Result.andThen_ok, run_underlying hU]
   simp only [h0, hlt, and_self, if_true, Sem.run_bind, hsz, Result.andThen_ok, Sem.run_pure, hint, Addr.add_mid, Nat.add_assoc]
 case pv x =>
  obtain ⟨hb, hk⟩ := brec_some h
  have hq1 := and3 hb
  clear hb
  obtain ⟨hb1, hb⟩ := hq1
  have hq2 := and3 hb
  clear hb
  obtain ⟨hb2, hb3⟩ := hq2
  obtain ⟨hU, ht1⟩ := arr (Nat.le_of_ble_eq_true hb1)
  have hjn : j < m := Nat.le_of_ble_eq_true hb3
  obtain ⟨z, hz, hk⟩ := gp_some hk
  obtain ⟨l, c, hR, he⟩ := hv.known (by simp) (by simp)
  cases hR with
  | pv g1 g2 g3 =>
   cases g3
   rename_i l' cs c off
   have hl : l' = some U := lcode_inj (by rw [<- lc_eq g2, <- beq_true.1 hb2, ht1]; rfl)
   subst hl
   have hc : comps P U = some (List.replicate m (lay P el)) := by rw [comps_eq htU, hU]
   have hp := poff_snoc (P := P) (l := some U) (p := []) (off := 0) (T := U) (by rfl) hc (f := j) (m := lay P el) (by rw [List.getElem?_replicate, if_pos hjn])
   rw [List.take_replicate, Nat.min_eq_left (by omega), szs_replicate, List.nil_append, Nat.zero_add] at hp
   obtain ⟨oo, k, q1, q2, q3⟩ := g2.getp hty hz
   rw [hp] at q1
   cases q1
   refine .pure hi (v := .pointer (some ⟨c, off + j * P.cellsOf el, none⟩)) ?_ ?_ hk
   ·have hlt : Int.ofNat j < (m : Int) := by simpa using hjn
    simp only [execOp, ho, he, pk, hj, List.headD_cons, Instr.indexAt, asIntOf, Instr.sureAddr, Sem.run_bind, Sem.run_pure, Result.andThen_ok, run_underlying hU]
    simp only [h0, hlt, and_self, if_true, Sem.run_bind, hsz, Result.andThen_ok, Sem.run_pure, hint, Addr.add_mid]
   ·rw [<- hsl]
    exact VR.of (l := none) (R.pv (g1.part q3) q2 .nil)
theorem eMi_ok (hi : Inv P s) {N : Fr} {T : Tm} (ht : TR P s.K s.ρ N T a) {rec : Rec} {x y : O} {x' y' : Operand} {ts : Array TypeId} (ho : o.op = .call { callee := .builtin .min, args := #[x', y'], argTypes := ts }) (h1 : om x x' = true) (h2 : om y y' = true)
  (h : eMi x y rec T wm s.n s.H Kt = some r) : OpW P o a s wm Kt r := by
 obtain ⟨k, m, j, n, hx, hy, h⟩ := int_any h
 have e1 := om_ok h1 ht
 have e2 := om_ok h2 ht
 rw [hx] at e1
 rw [hy] at e2
 refine .pure hi (v := .int k (if n < m then n else m)) ?_ ?_ h
 ·simp [execOp, ho, resolve, invoke, builtin, Builtin.min_, Builtin.min2, e1.int, e2.int]
 ·have : (Bool.rec m n (ltI n m) : Int) = if n < m then n else m := by
   rw [ltI_eq]
   by_cases hlt : n < m <;> simp [hlt]
  rw [this]
  exact .mkInt _ _
theorem eMa_ok (hi : Inv P s) {N : Fr} {T : Tm} (ht : TR P s.K s.ρ N T a) {rec : Rec} {x y : O} {x' y' : Operand} {ts : Array TypeId} (ho : o.op = .call { callee := .builtin .max, args := #[x', y'], argTypes := ts }) (h1 : om x x' = true) (h2 : om y y' = true)
  (h : eMa x y rec T wm s.n s.H Kt = some r) : OpW P o a s wm Kt r := by
 obtain ⟨k, m, j, n, hx, hy, h⟩ := int_any h
 have e1 := om_ok h1 ht
 have e2 := om_ok h2 ht
 rw [hx] at e1
 rw [hy] at e2
 refine .pure hi (v := .int k (if m < n then n else m)) ?_ ?_ h
 ·simp [execOp, ho, resolve, invoke, builtin, Builtin.max_, Builtin.max2, e1.int, e2.int]
 ·have : (Bool.rec m n (ltI m n) : Int) = if m < n then n else m := by
   rw [ltI_eq]
   by_cases hlt : m < n <;> simp [hlt]
  rw [this]
  exact .mkInt _ _
theorem strOf_len (b : ByteArray) : (strOf b).length = b.size := by simp [strOf, ByteArray.toList_eq]
def lnk (P : PX) (q : Nat) (t : TypeId) : Bool := match P.underlying t with | some (.slice _) => q == 0 | some .string => q == 1 | some (.map ..) => q == 2 | _ => false
theorem eLn_ok (hi : Inv P s) {N : Fr} {T : Tm} (ht : TR P s.K s.ρ N T a) {rec : Rec} {q : Nat} {x : O} {x' : Operand} {t : TypeId} (ho : o.op = .call { callee := .builtin .len, args := #[x'], argTypes := #[t] }) (h1 : om x x' = true) (hq : lnk P q t = true)
  (h : eLn q x rec T wm s.n s.H Kt = some r) : OpW P o a s wm Kt r := by
 have hv := om_ok h1 ht
 unfold eLn at h
 generalize ev T x = av at h hv
 unfold lnk at hq
 have key : ∃ m, (Builtin.len_ #[t] o.type #[a.eval x']).run P s.w = .ok (goInt m) s.w /\ Kt (.int .i64 m) s.n s.H = some r := by
  cases av <;> first | (cases h; done) | skip
  all_goals
   obtain ⟨l, c, hR, he⟩ := hv.known (by simp) (by simp)
   obtain ⟨hb, hk⟩ := brec_some h
   have hq0 := beq_true.1 hb
   subst hq0
   split at hq <;> first | (simp at hq; done) | skip
   rename_i hu
   cases hR
   refine ⟨_, ?_, hk⟩
   rw [he]
   simp [Builtin.len_, run_underlying hu, pk, len_eq, slen_eq, strOf_len]
 obtain ⟨m, hr, hk⟩ := key
 refine .pure hi (v := goInt m) ?_ (.mkInt _ _) hk
 simp [execOp, ho, resolve, invoke, builtin, hr]
theorem eCp_ok (hi : Inv P s) {N : Fr} {T : Tm} (ht : TR P s.K s.ρ N T a) {rec : Rec} {x : O} {x' : Operand} {t : TypeId} (ho : o.op = .call { callee := .builtin .cap, args := #[x'], argTypes := #[t] }) (h1 : om x x' = true) (hq : lnk P 0 t = true)
  (h : eCp x rec T wm s.n s.H Kt = some r) : OpW P o a s wm Kt r := by
 have hv := om_ok h1 ht
 unfold eCp at h
 generalize ev T x = av at h hv
 unfold lnk at hq
 split at hq <;> first | (simp at hq; done) | skip
 rename_i hu
 have key : ∃ m, (Builtin.cap_ #[t] o.type #[a.eval x']).run P s.w = .ok (goInt m) s.w /\ Kt (.int .i64 m) s.n s.H = some r := by
  cases av <;> first | (cases h; done) | skip
  ·obtain ⟨l, c, hR, he⟩ := hv.known (by simp) (by simp)
   obtain ⟨hb, hk⟩ := brec_some h
   cases hR
   rename_i g1 g2 g3 g4 g5
   refine ⟨_, ?_, hk⟩
   rw [he]
   simp [Builtin.cap_, run_underlying hu, pk, len_eq, g4 hb]
  ·obtain ⟨l, c, hR, he⟩ := hv.known (by simp) (by simp)
   cases hR
   refine ⟨_, ?_, h⟩
   rw [he]
   simp [Builtin.cap_, run_underlying hu, pk]
  ·obtain ⟨l, c, hR, he⟩ := hv.known (by simp) (by simp)
   obtain ⟨hb, hk⟩ := brec_none h
   cases hR
   rename_i g1 g2 g3 g4 g5 g6 g7
   refine ⟨_, ?_, hk⟩
   rw [he]
   simp_all [Builtin.cap_, run_underlying hu, pk]
 obtain ⟨m, hr, hk⟩ := key
 refine .pure hi (v := goInt m) ?_ (.mkInt _ _) hk
 simp [execOp, ho, resolve, invoke, builtin, hr]
theorem sc_ok {K : Kap} {ρ : Rho} {v : AV} {u : Value} (h : VR P K ρ v u) (hs : sc v = true) : R P K ρ [v] [none] [u] := by
 obtain ⟨l, c, hR, he⟩ := h.known (by rintro rfl; cases hs) (by rintro l rfl; cases hs)
 have hl : l = none := by
  have e := lc_lay hR
  cases v <;> first | (cases hs; done) | (cases l <;> first | rfl | (cases e; done)) | skip
  have := beq_true.1 hs
  cases l <;> first | rfl | (cases e; cases this)
 subst hl
 obtain ⟨w, rfl⟩ := hR.single
 have : u = w := he
 subst this
 exact hR
theorem scs_ok {K : Kap} {ρ : Rho} {l : List AV} {us : List Value} (h : All2 (VR P K ρ) l us) (hs : scs l = true) : R P K ρ l (List.replicate l.length none) us := by
 induction h with
 | nil => exact .nil
 | cons h1 _ ih =>
  obtain ⟨q1, q2⟩ := and3 hs
  exact (sc_ok h1 q1).cons (ih q2)
theorem eMf_ok (hi : Inv P s) {N : Fr} {T : Tm} (ht : TR P s.K s.ρ N T a) {rec : Rec} {f : Nat} {xs ys : List O} {xs' ys' : Array Operand} (ho : o.op = .makeFunc (.func f) xs' ys') (h1 : oms xs xs'.toList = true) (h2 : oms ys ys'.toList = true)
  (h : eMf f xs ys rec T wm s.n s.H Kt = some r) : OpW P o a s wm Kt r := by
 obtain ⟨hb, hk⟩ := brec_some h
 obtain ⟨b1, b2⟩ := and3 hb
 have r1 := scs_ok (oms_ok ht h1) b1
 have r2 := scs_ok (oms_ok ht h2) b2
 refine .pure hi (v := .func (.func f) (xs'.map a.eval) (ys'.map a.eval)) (by simp [execOp, ho, Instr.makeFunc]) ?_ hk
 have := R.fn (f := f) r1 r2 (.nil (P := P))
 have e1 : (xs'.toList.map a.eval).toArray = xs'.map a.eval := Array.toList_inj.1 (by simp)
 have e2 : (ys'.toList.map a.eval).toArray = ys'.map a.eval := Array.toList_inj.1 (by simp)
 rw [e1, e2] at this
 exact VR.of (l := none) this
end
end Go.Proofs.YtgaghaggiblabaaGreatDoor.Ev
namespace Go.Proofs.YtgaghaggiblabaaGreatDoor.Ev
open Go.RowKit
section
variable {P : PX} {o : Oper} {a : Act} {s : St} {wm : Nat} {Kt : Kv} {r : AV × Nat × Hp}
def BdR (v : Option Value) (d n : Nat) : Prop := match v with | none => n = d | some v => ∃ k, v = .int k n
def omo (x : Option O) (y : Option Operand) : Bool := match x, y with | none, none => true | some x, some y => om x y | _, _ => false
theorem isN_ok {x : Option O} {y : Option Operand} (hm : omo x y = true) (T : Tm) (f : Operand -> Value) : isN (opt T x) = (y.map f).isNone := by
 cases x <;> cases y <;> first | (cases hm; done) | skip
 ·rfl
 ·rename_i x y
  show isN (bdv (ev T x)) = false
  cases ev T x <;> first | rfl | skip
  rename_i k n
  cases n <;> rfl
theorem bd_ok {K : Kap} {ρ : Rho} {N : Fr} {T : Tm} (ht : TR P K ρ N T a) {x : Option O} {y : Option Operand} (hm : omo x y = true) {d : Nat} {α : Type} {k : Nat -> Option α} {r : α} (h : bd (opt T x) d k = some r) :
  ∃ n, BdR (y.map a.eval) d n /\ k n = some r := by
 cases x <;> cases y <;> first | (cases hm; done) | skip
 ·exact ⟨d, rfl, h⟩
 ·rename_i x y
  have hv := om_ok hm ht
  simp only [opt, bdv, bd] at h
  generalize ev T x = av at h hv
  cases av <;> first | (cases h; done) | skip
  rename_i k' n'
  cases n' <;> first | (cases h; done) | skip
  exact ⟨_, ⟨_, hv.int⟩, h⟩
theorem run_bound {v : Value} {k : IntKind} {n y : Nat} {code : BoundsCode} (hv : v = .int k n) (h : n <= y) (w : World) : (Instr.sliceBound v y code).run P w = .ok n w := by
 subst hv
 have h1 : (n : Int) <= y := by omega
 simp [Instr.sliceBound, asIntOf, h1]
theorem run_bounds {q : Bool} {len cap : Nat} {lo hi mx : Option Value} {l h m : Nat} (h1 : BdR lo 0 l) (h2 : BdR hi len h) (h3 : BdR mx cap m) (hl : l <= h) (hh : h <= m) (hm : m <= cap) (hx : mx.isSome = true -> hi.isSome = true) (w : World) :
  (Instr.sliceBounds q len cap lo hi mx).run P w = .ok (l, h, m) w := by
 unfold Instr.sliceBounds
 cases mx with
 | none =>
  have e3 : m = cap := h3
  subst e3
  cases hi with
  | none =>
   have e2 : h = len := h2
   subst e2
   cases lo with
   | none =>
    have e1 : l = 0 := h1
    subst e1
    simp
   | some v =>
    obtain ⟨k, e1⟩ := h1
    simp [run_bound e1 hl]
  | some u =>
   obtain ⟨k2, e2⟩ := h2
   cases lo with
   | none =>
    have e1 : l = 0 := h1
    subst e1
    simp [run_bound e2 hh]
   | some v =>
    obtain ⟨k, e1⟩ := h1
    simp [run_bound e2 hh, run_bound e1 hl]
 | some z =>
  obtain ⟨k3, e3⟩ := h3
  cases hi with
  | none => exact absurd (hx rfl) (by simp)
  | some u =>
   obtain ⟨k2, e2⟩ := h2
   cases lo with
   | none =>
    have e1 : l = 0 := h1
    subst e1
    simp [run_bound e3 hm, run_bound e2 hh]
   | some v =>
    obtain ⟨k, e1⟩ := h1
    simp [run_bound e3 hm, run_bound e2 hh, run_bound e1 hl]
theorem VR.sr_inv {K : Kap} {ρ : Rho} {b off n cap t : Nat} {op : Bool} {v : Value} (h : VR P K ρ (.sr b off n cap op t) v) : ∃ c l m tot ccap, ρ b = some (c, .row l m tot) /\ n <= cap /\ off + cap <= m /\ cap <= ccap /\ (op = false -> ccap = cap) /\
  (off + ccap) * szl P l <= tot /\ lcode l = t /\ v = .slice (some ⟨c, off * szl P l, none⟩) n ccap := by
 obtain ⟨l, c, hR, he⟩ := h.known (by simp) (by simp)
 cases hR with
 | sr g1 g2 g3 g4 g5 g6 g7 =>
  cases g7
  exact ⟨_, _, _, _, _, g1, g2, g3, g4, g5, g6, rfl, he⟩
theorem VR.sv_inv {K : Kap} {ρ : Rho} {es : List AV} {full : Bool} {v : Value} (h : VR P K ρ (.sv es full) v) : ∃ c off cap l cs, Fixed K c off cs /\ R P K (fun _ => none) es (List.replicate es.length l) cs /\ es.length <= cap /\ (full = true -> cap = es.length) /\
  v = .slice (some ⟨c, off, none⟩) es.length cap := by
 obtain ⟨l, c, hR, he⟩ := h.known (by simp) (by simp)
 cases hR with
 | sv g1 g2 g3 g4 g5 =>
  cases g5
  exact ⟨_, _, _, _, _, g1, g2, g3, g4, he⟩
def slk (P : PX) (q e : Nat) (t : TypeId) : Bool := match P.underlying t with | some (.slice el) => q == 0 && e == lcode (lay P el) && (P.underlying el).isSome && tin P el | some .string => q == 1 | _ => false
theorem take_take_drop (b : ByteArray) (l h : Nat) : strOf (b.extract l h) = ((strOf b).take h).drop l := by
 unfold strOf
 rw [ByteArray.toList_eq, ByteArray.toList_eq, ByteArray.data_extract, Array.toList_extract]
 simp [List.extract_eq_take_drop, List.map_take, List.map_drop, List.drop_take]
theorem R.sub {K : Kap} {ρ : Rho} (hty : TyOk P) {es : List AV} {l : Lay} {cs : List Value} (h : R P K ρ es (List.replicate es.length l) cs) {i j : Nat} (hij : i <= j) (hj : j <= es.length) :
  R P K ρ ((es.take j).drop i) (List.replicate ((es.take j).drop i).length l) ((cs.drop (i * szl P l)).take ((j - i) * szl P l)) /\ i * szl P l + (j - i) * szl P l <= cs.length := by
 have h0 := h.size hty
 rw [szs_replicate] at h0
 obtain ⟨h1, _⟩ := h.split hty j
 rw [List.take_replicate, Nat.min_eq_left hj, szs_replicate] at h1
 obtain ⟨_, h2⟩ := h1.split hty i
 rw [List.drop_replicate, List.take_replicate, Nat.min_eq_left hij, szs_replicate] at h2
 have e : ((es.take j).drop i).length = j - i := by simp; omega
 rw [e]
 have e2 : (cs.take (j * szl P l)).drop (i * szl P l) = (cs.drop (i * szl P l)).take ((j - i) * szl P l) := by rw [List.drop_take, <- Nat.sub_mul]
 rw [e2] at h2
 refine ⟨h2, ?_⟩
 have : i * szl P l + (j - i) * szl P l = j * szl P l := by rw [<- Nat.add_mul]; congr 1; omega
 rw [this, h0]
 exact Nat.mul_le_mul_right _ hj
theorem hc_lay {K : Kap} {ρ : Rho} {es : List AV} {l : Lay} {cs : List Value} (h : R P K ρ es (List.replicate es.length l) cs) {e : Nat} (hh : hc e es = true) (hn : es ≠ []) : lcode l = e := by
 cases es with
 | nil => exact absurd rfl hn
 | cons x es =>
  simp only [List.length_cons, List.replicate_succ] at h
  obtain ⟨c, d, _, h1, _⟩ := h.uncons
  rw [<- lc_eq h1]
  exact (beq_true.1 hh).symm
theorem eSl_ok (hty : TyOk P) (hi : Inv P s) {N : Fr} {T : Tm} (ht : TR P s.K s.ρ N T a) {rec : Rec} {q e : Nat} {x : O} {lo hi' mx : Option O} {x' : Operand} {lo' hi'' mx' : Option Operand} {U : TypeId} (ho : o.op = .slice U x' lo' hi'' mx') (h1 : om x x' = true)
  (h2 : omo lo lo' = true) (h3 : omo hi' hi'' = true) (h4 : omo mx mx' = true) (hk : slk P q e U = true) (h : eSl q e x lo hi' mx rec T wm s.n s.H Kt = some r) : OpW P o a s wm Kt r := by
 have hv := om_ok h1 ht
 have n3 := isN_ok h4 T a.eval
 have n2 := isN_ok h3 T a.eval
 unfold eSl at h
 generalize ev T x = av at h hv
 have hrun : ∀ (w : World), (∃ el, P.underlying U = some (.slice el) \/ P.underlying U = some .string) -> (execOp a.eval o).run P w = ((Instr.slice U (a.eval x') (lo'.map a.eval) (hi''.map a.eval) (mx'.map a.eval)).run P w).andThen fun v w' => .ok (.value v) w' := by
  intro w hu
  obtain ⟨el, hu⟩ := hu
  unfold execOp
  simp only [ho]
  rcases hu with hu | hu <;> simp [Instr.sliceAt, run_underlying hu]
 have hop : ∀ b : Bool, (Bool.rec (not' (isN (opt T hi'))) true b : Bool) = true -> b = isN (opt T mx) -> ((mx'.map a.eval).isSome = true -> (hi''.map a.eval).isSome = true) := by
  intro b hb e hs
  subst e
  rw [n3] at hb
  cases hm : mx'.map a.eval with
  | none => rw [hm] at hs; cases hs
  | some z =>
   rw [hm] at hb
   have hb : not' (isN (opt T hi')) = true := hb
   rw [not'_eq, n2] at hb
   simpa using hb
 unfold slk at hk
 cases av <;> first | (cases h; done) | skip
 case str sb =>
  simp only [slc] at h
  obtain ⟨l, b1, h⟩ := bd_ok ht h2 h
  obtain ⟨hh, b2, h⟩ := bd_ok ht h3 h
  obtain ⟨hb, hkk⟩ := brec_some h
  obtain ⟨c1, hb⟩ := and3 hb
  obtain ⟨c2, hb⟩ := and3 hb
  obtain ⟨c3, c4⟩ := and3 hb
  have c1 := beq_true.1 c1
  subst c1
  rw [n3] at c2
  have c3 := Nat.le_of_ble_eq_true c3
  have c4 := Nat.le_of_ble_eq_true c4
  split at hk <;> first | (simp at hk; done) | skip
  rename_i hu
  obtain ⟨_, _, hR, he⟩ := hv.known (by simp) (by simp)
  obtain ⟨b, hsb, he⟩ : ∃ b, strOf b = sb /\ a.eval x' = .string b := by
   cases hR
   exact ⟨_, rfl, he⟩
  subst hsb
  rw [slen_eq, strOf_len] at c4 b2
  have hmn : mx'.map a.eval = none := by simpa using c2
  have hrb : (Instr.sliceBounds false b.size b.size (lo'.map a.eval) (hi''.map a.eval) none).run P s.w = .ok (l, hh, b.size) s.w :=
   run_bounds (P := P) (q := false) b1 b2 (show BdR none b.size b.size from rfl) c3 c4 (Nat.le_refl _) (by simp) s.w
  refine .pure hi (v := .string (b.extract l hh)) ?_ ?_ hkk
  ·rw [hrun _ ⟨0, .inr hu⟩, he]
   simp only [Instr.slice, Sem.run_bind, run_underlying hu, Result.andThen_ok, hmn, Option.isSome_none, Bool.false_eq_true, if_false, hrb, Sem.run_pure]
  ·rw [<- take_take_drop]
   exact VR.of (l := none) (.str .nil)
 case sn =>
  simp only [slc] at h
  obtain ⟨l, b1, h⟩ := bd_ok ht h2 h
  obtain ⟨hh, b2, h⟩ := bd_ok ht h3 h
  obtain ⟨m, b3, h⟩ := bd_ok ht h4 h
  obtain ⟨hb, hkk⟩ := brec_some h
  obtain ⟨hb, c3⟩ := and3 hb
  obtain ⟨c1, c2⟩ := and3 hb
  have c1 := beq_true.1 c1
  subst c1
  have c3 : l + (hh + m) = 0 := beq_true.1 c3
  obtain rfl : l = 0 := by omega
  obtain rfl : hh = 0 := by omega
  obtain rfl : m = 0 := by omega
  split at hk <;> first | (simp at hk; done) | skip
  rename_i el hu
  simp only [Bool.and_eq_true] at hk
  obtain ⟨d, hd⟩ := Option.isSome_iff_exists.1 hk.1.2
  obtain ⟨_, _, hR, he⟩ := hv.known (by simp) (by simp)
  cases hR
  refine .pure hi (v := .slice none 0 0) ?_ (VR.of (l := none) (.sn .nil)) hkk
  rw [hrun _ ⟨_, .inl hu⟩, he]
  simp only [pk, List.headD_cons, Instr.slice, Sem.run_bind, run_underlying hu, Result.andThen_ok, run_bounds (P := P) (q := true) b1 b2 b3 (Nat.le_refl _) (Nat.le_refl _) (Nat.le_refl _) (hop _ c2 rfl), run_sizeOf' hd, Sem.run_pure]
  rfl
 case sv es full =>
  simp only [slc] at h
  obtain ⟨l, b1, h⟩ := bd_ok ht h2 h
  obtain ⟨hh, b2, h⟩ := bd_ok ht h3 h
  obtain ⟨m, b3, h⟩ := bd_ok ht h4 h
  obtain ⟨hb, hkk⟩ := brec_some h
  obtain ⟨hb1, hb2⟩ := and3 hb
  obtain ⟨c1, c2⟩ := and3 hb1
  obtain ⟨c3, hb3⟩ := and3 hb2
  obtain ⟨c4, hb4⟩ := and3 hb3
  obtain ⟨c5, c6⟩ := and3 hb4
  have c1 := beq_true.1 c1
  subst c1
  have c3 := Nat.le_of_ble_eq_true c3
  have c4 := Nat.le_of_ble_eq_true c4
  have c5 := beq_true.1 c5
  subst c5
  rw [len_eq] at c4 b2
  split at hk <;> first | (simp at hk; done) | skip
  rename_i el hu
  simp only [Bool.and_eq_true, beq_iff_eq] at hk
  obtain ⟨⟨⟨_, rfl⟩, hel⟩, htel⟩ := hk
  obtain ⟨d, hd⟩ := Option.isSome_iff_exists.1 hel
  ·obtain ⟨c, off, cap, l', cs, g1, g2, g3, g4, he⟩ := hv.sv_inv
   -- the capacity's bound, as the model has it
   obtain ⟨M, bM, hM1, hM2, hM3⟩ : ∃ M, BdR (mx'.map a.eval) cap M /\ m <= M /\ M <= cap /\ ((mx'.map a.eval).isNone = false -> M = m) := by
    cases hm : mx'.map a.eval with
    | none => exact ⟨cap, rfl, by omega, Nat.le_refl _, fun e => by cases e⟩
    | some z => rw [hm] at b3; exact ⟨m, b3, Nat.le_refl _, by omega, fun _ => rfl⟩
   have hb := run_bounds (P := P) (q := true) b1 b2 bM c3 hM1 hM2 (hop _ c6 rfl) s.w
   obtain ⟨q1, q2⟩ := g2.sub hty c3 c4
   rw [take_eq, drop_eq] at hkk
   refine .pure hi (v := .slice (if M = l then some ⟨c, off, none⟩ else some ⟨c, off + l * P.cellsOf el, none⟩) (m - l) (M - l)) ?_ ?_ hkk
   ·rw [hrun _ ⟨_, .inl hu⟩, he]
    simp only [pk, List.headD_cons, Instr.slice, Sem.run_bind, run_underlying hu, Result.andThen_ok, hb, run_sizeOf' hd, Sem.run_pure, Option.map_some, Addr.add_mid]
   ·have elen : ((es.take m).drop l).length = m - l := by simp; omega
    have hfull : (Bool.rec true (and' full (Nat.beq m (len es))) (isN (opt T mx)) : Bool) = true -> M - l = ((es.take m).drop l).length := by
     intro e
     rw [elen]
     cases hn : isN (opt T mx) with
     | true =>
      rw [hn] at e
      obtain ⟨e1, e2⟩ := and3 e
      have e2 := beq_true.1 e2
      rw [len_eq] at e2
      have := g4 e1
      omega
     | false =>
      rw [n3] at hn
      have := hM3 hn
      omega
    have elen2 : m - l = ((es.take m).drop l).length := elen.symm
    have hcap : ((es.take m).drop l).length <= M - l := by rw [elen]; omega
    by_cases hml : M = l
    ·have hnil : (es.take m).drop l = [] := by
      apply List.eq_nil_of_length_eq_zero
      rw [elen]; omega
     rw [if_pos hml, elen2]
     have hfx : Fixed s.K c off [] := by
      obtain ⟨arr, f1, _⟩ := g1
      exact ⟨arr, f1, rfl⟩
     have hRn : R P s.K (fun _ => none) ((es.take m).drop l) (List.replicate ((es.take m).drop l).length l') [] := by rw [hnil]; exact .nil
     exact VR.of (l := none) (R.sv hfx hRn hcap hfull .nil)
    ·rw [if_neg hml, elen2]
     have hfx := g1.part q2
     by_cases hnil : (es.take m).drop l = []
     ·have hfx' : Fixed s.K c (off + l * P.cellsOf el) [] := by
       obtain ⟨arr, f1, _⟩ := g1
       exact ⟨arr, f1, rfl⟩
      have hRn : R P s.K (fun _ => none) ((es.take m).drop l) (List.replicate ((es.take m).drop l).length l') [] := by rw [hnil]; exact .nil
      exact VR.of (l := none) (R.sv hfx' hRn hcap hfull .nil)
     ·have hes : es ≠ [] := by
       intro e
       apply hnil
       simp [e]
      have hl' : l' = lay P el := lcode_inj (hc_lay g2 c2 hes)
      subst hl'
      rw [szl_lay hty htel hd] at hfx q1
      exact VR.of (l := none) (R.sv hfx q1 hcap hfull .nil)
 case sr b off n cap op tt =>
  simp only [slc] at h
  obtain ⟨l, b1, h⟩ := bd_ok ht h2 h
  obtain ⟨hh, b2, h⟩ := bd_ok ht h3 h
  obtain ⟨m, b3, h⟩ := bd_ok ht h4 h
  obtain ⟨hb, hkk⟩ := brec_some h
  obtain ⟨hb1, hb2⟩ := and3 hb
  obtain ⟨c1, c2⟩ := and3 hb1
  obtain ⟨hb3, hb4⟩ := and3 hb2
  have c3 := hb3
  obtain ⟨c4, hb5⟩ := and3 hb4
  obtain ⟨c5, c6⟩ := and3 hb5
  have c1 := beq_true.1 c1
  subst c1
  have c3 := Nat.le_of_ble_eq_true c3
  have c4 := Nat.le_of_ble_eq_true c4
  have c5 := Nat.le_of_ble_eq_true c5
  split at hk <;> first | (simp at hk; done) | skip
  rename_i el hu
  simp only [Bool.and_eq_true, beq_iff_eq] at hk
  obtain ⟨⟨⟨_, rfl⟩, hel⟩, htel⟩ := hk
  obtain ⟨d, hd⟩ := Option.isSome_iff_exists.1 hel
  ·obtain ⟨c, l', m', tot, ccap, g1, g2, g3, g4, g5, g6, hlc, he⟩ := hv.sr_inv
   have hl' : l' = lay P el := lcode_inj (by rw [hlc]; exact (beq_true.1 c2).symm)
   subst hl'
   subst hlc
   obtain ⟨M, bM, hM1, hM2, hM3, hM4⟩ : ∃ M, BdR (mx'.map a.eval) ccap M /\ m <= M /\ M <= ccap /\ ((mx'.map a.eval).isNone = false -> M = m) /\ ((mx'.map a.eval).isNone = true -> M = ccap /\ m = cap) := by
    cases hm : mx'.map a.eval with
    | none => rw [hm] at b3; have b3 : m = cap := b3; exact ⟨ccap, rfl, by omega, Nat.le_refl _, (fun e => by cases e), fun _ => ⟨rfl, b3⟩⟩
    | some z => rw [hm] at b3; exact ⟨m, b3, Nat.le_refl _, by omega, (fun _ => rfl), fun e => by cases e⟩
   have hb := run_bounds (P := P) (q := true) b1 b2 bM c3 (by omega) hM2 (hop _ c6 rfl) s.w
   have key : and' (and' (isN (opt T mx)) op) (and' (Nat.beq l cap) (not' (Nat.beq l 0))) = true /\ Kt .se s.n s.H = some r \/ (Bool.rec true (Bool.rec (Nat.ble (Nat.add l 1) cap) true (Nat.beq l 0)) (and' (isN (opt T mx)) op) : Bool) = true /\ Kt (.sr b (Bool.rec (Nat.add off l) off (Nat.beq m l)) (Nat.sub hh l) (Nat.sub m l) (and' (isN (opt T mx)) op) (lcode (lay P el))) s.n s.H = some r := by
    cases hse : and' (and' (isN (opt T mx)) op) (and' (Nat.beq l cap) (not' (Nat.beq l 0))) with
    | true => rw [hse] at hkk; exact .inl ⟨rfl, hkk⟩
    | false => rw [hse] at hkk; exact .inr (brec_some hkk)
   clear hkk
   rcases key with ⟨hse, hkk⟩ | ⟨c7, hkk⟩
   ·obtain ⟨x1, x2⟩ := and3 hse
    obtain ⟨x1, x3⟩ := and3 x1
    obtain ⟨x2, _⟩ := and3 x2
    have x2 := beq_true.1 x2
    rw [n3] at x1
    have x4 := (hM4 x1).2
    have hz : hh - l = 0 := by omega
    refine .pure hi (v := .slice (if M = l then some ⟨c, off * szl P (lay P el), none⟩ else some ⟨c, off * szl P (lay P el) + l * P.cellsOf el, none⟩) (hh - l) (M - l)) ?_ ?_ hkk
    ·rw [hrun _ ⟨_, .inl hu⟩, he]
     simp only [pk, List.headD_cons, Instr.slice, Sem.run_bind, run_underlying hu, Result.andThen_ok, hb, run_sizeOf' hd, Sem.run_pure, Option.map_some, Addr.add_mid]
    ·rw [hz]
     split <;> exact VR.of (l := none) (R.se .nil)
   have hop' : and' (isN (opt T mx)) op = false -> M = m := by
    intro e
    rw [and'_eq, n3] at e
    cases hn : (mx'.map a.eval).isNone with
    | false => exact hM3 hn
    | true =>
     rw [hn] at e
     obtain ⟨x1, x2⟩ := hM4 hn
     have := g5 (by simpa using e)
     omega
   have hml : and' (isN (opt T mx)) op = true -> l = 0 \/ l < m := by
    intro e
    rw [e] at c7
    have c7 : (Bool.rec (Nat.ble (Nat.add l 1) cap) true (Nat.beq l 0) : Bool) = true := c7
    rw [brec_beq] at c7
    split at c7
    ·exact .inl (by assumption)
    ·have h5 : l + 1 <= cap := Nat.le_of_ble_eq_true c7
     rw [and'_eq, n3, Bool.and_eq_true] at e
     have := (hM4 e.1).2
     omega
   have haddr : (Bool.rec (Nat.add off l) off (Nat.beq m l) : Nat) = if m = l then off else off + l := by rw [brec_beq]; rfl
   rw [haddr] at hkk
   have hMl : M = l -> m = l := fun e => by omega
   have hlM : m = l -> M = l \/ l = 0 := by
    intro e
    cases ho2 : and' (isN (opt T mx)) op with
    | false => have := hop' ho2; omega
    | true => have := hml ho2; omega
   refine .pure hi (v := .slice (if M = l then some ⟨c, off * szl P (lay P el), none⟩ else some ⟨c, off * szl P (lay P el) + l * P.cellsOf el, none⟩) (hh - l) (M - l)) ?_ ?_ hkk
   ·rw [hrun _ ⟨_, .inl hu⟩, he]
    simp only [pk, List.headD_cons, Instr.slice, Sem.run_bind, run_underlying hu, Result.andThen_ok, hb, run_sizeOf' hd, Sem.run_pure, Option.map_some, Addr.add_mid]
   ·have e1 : (if M = l then some (⟨c, off * szl P (lay P el), none⟩ : Addr) else some ⟨c, off * szl P (lay P el) + l * P.cellsOf el, none⟩) = some ⟨c, (if m = l then off else off + l) * szl P (lay P el), none⟩ := by
     rw [szl_lay hty htel hd]
     by_cases x1 : m = l
     ·rcases hlM x1 with x2 | x2
      ·rw [if_pos x2, if_pos x1]
      ·subst x2
       rw [if_pos x1]
       split <;> simp
     ·rw [if_neg (fun e => x1 (hMl e)), if_neg x1, Nat.add_mul]
    rw [e1]
    have hoff : (if m = l then off else off + l) + (M - l) <= off + ccap := by split <;> omega
    have hsz : ((if m = l then off else off + l) + (M - l)) * szl P (lay P el) <= tot := Nat.le_trans (Nat.mul_le_mul_right _ hoff) g6
    exact VR.of (l := none) (R.sr (cap := m - l) (op := and' (isN (opt T mx)) op) g1 (show hh - l <= m - l by omega) (by split <;> omega) (show m - l <= M - l by omega) (fun e => by rw [hop' e]) hsz .nil)
end
end Go.Proofs.YtgaghaggiblabaaGreatDoor.Ev
namespace Go.Proofs.YtgaghaggiblabaaGreatDoor.Ev
open Go.RowKit
section
variable {P : PX} {o : Oper} {a : Act} {s : St} {wm : Nat} {Kt : Kv} {r : AV × Nat × Hp}
theorem Ext.world {wm : Nat} {s : St} (h : Inv P s) {w' : World} (h1 : w'.heap = s.w.heap) (h2 : w'.os = s.w.os) (h3 : w'.tape = s.w.tape) (h4 : w'.output = s.w.output) : Ext P wm s ⟨s.K, s.ρ, s.n, s.H, w'⟩ where
 inv := ⟨fun c a e => by dsimp only; rw [h1]; exact h.kok c a e, ⟨fun b ab e => by dsimp only; rw [h1]; exact h.hr.blk b ab e, h.hr.inj⟩, h.rdom⟩
 kle := fun _ _ e => e
 rle := fun _ _ e => e
 rlt := fun _ _ => rfl
 nle := Nat.le_refl _
 frame := fun _ _ _ => by dsimp only; rw [h1]
 size := by dsimp only; rw [h1]; exact Nat.le_refl _
 os := h2
 tape := h3
 out := h4
 wmk := fun _ _ => rfl
 sub := fun _ _ e => e
 knew := fun _ _ e => .inl e
 rnew := fun _ e => .inr e
theorem Ext.move {wm : Nat} {s : St} (h : Inv P s) {b : Nat} {ab ab' : AB} {c : Nat} {k k' : BL} {o' : Obj} {w' : World} (hb : hget b s.H = some ab) (hw : wm <= b) (hn : wm <= s.n) (hc : s.ρ b = some (c, k))
  (h1 : w'.heap[c]? = some o') (h2 : BR P s.K s.ρ ab' k' o') (h3 : ∀ d, d ≠ c -> w'.heap[d]? = s.w.heap[d]?) (h4 : w'.heap.size = s.w.heap.size) (h5 : w'.os = s.w.os) (h6 : w'.tape = s.w.tape) (h7 : w'.output = s.w.output) :
  Ext P wm s ⟨s.K, upd s.ρ s.n (c, k'), s.n + 1, (s.n, ab') :: hdel b s.H, w'⟩ := by
 obtain ⟨c', k0, o, g1, g2, g3, g4⟩ := h.hr.blk b ab hb
 rw [hc] at g1
 cases g1
 have hle : Rle s.ρ (upd s.ρ s.n (c, k')) := fun b x e => by
  rw [upd_other _ _ (by have := h.rdom _ _ e; omega), e]
 have hg : ∀ b' x, hget b' ((s.n, ab') :: hdel b s.H) = some x -> (b' = s.n /\ x = ab') \/ (b' ≠ s.n /\ b' ≠ b /\ hget b' s.H = some x) := by
  intro b' x e
  change (if s.n = b' then some ab' else hget b' (hdel b s.H)) = some x at e
  split at e
  ·rename_i e'
   cases e
   exact .inl ⟨e'.symm, rfl⟩
  ·rw [hget_hdel] at e
   split at e
   ·cases e
   ·exact .inr ⟨by omega, by assumption, e⟩
 refine ⟨⟨?_, ⟨?_, ?_⟩, ?_⟩, fun _ _ e => e, hle, fun b hb => upd_other _ _ (by omega), by simp, ?_, by simp [h4], h5, h6, h7, ?_, ?_, fun _ _ e => .inl e, ?_⟩
 ·intro d a e
  obtain ⟨t, fz, e1⟩ := h.kok d a e
  refine ⟨t, fz, ?_⟩
  dsimp only
  rw [h3 d (fun e' => by subst e'; rw [g2] at e; cases e), e1]
 ·intro b' x e
  rcases hg b' x e with ⟨rfl, rfl⟩ | ⟨hne, hne', e'⟩
  ·exact ⟨c, k', o', upd_same _ _ _, g2, h1, h2.mono (fun _ _ e => e) hle⟩
  ·obtain ⟨d, kk, o2, e1, e2, e3, e4⟩ := h.hr.blk b' x e'
   refine ⟨d, kk, o2, hle _ _ e1, e2, ?_, e4.mono (fun _ _ e => e) hle⟩
   dsimp only
   rw [h3 d (fun e5 => by subst e5; exact hne' (h.hr.inj _ _ _ _ _ _ _ e' hb e1 hc)), e3]
 ·intro b1 b2 x1 x2 d k1 k2 e1 e2 e3 e4
  dsimp only at e3 e4
  rcases hg _ _ e1 with ⟨rfl, _⟩ | ⟨n1, m1, f1⟩ <;> rcases hg _ _ e2 with ⟨f2, _⟩ | ⟨n2, m2, f2⟩
  ·exact f2.symm
  ·rw [upd_same] at e3
   cases e3
   rw [upd_other _ _ n2] at e4
   exact absurd (h.hr.inj _ _ _ _ _ _ _ f2 hb e4 hc) m2
  ·subst f2
   rw [upd_same] at e4
   cases e4
   rw [upd_other _ _ n1] at e3
   exact absurd (h.hr.inj _ _ _ _ _ _ _ f1 hb e3 hc) m1
  ·rw [upd_other _ _ n1] at e3
   rw [upd_other _ _ n2] at e4
   exact h.hr.inj _ _ _ _ _ _ _ f1 f2 e3 e4
 ·intro b' x e
  dsimp only at e ⊢
  by_cases hb : b' = s.n
  ·omega
  ·rw [upd_other _ _ hb] at e
   have := h.rdom _ _ e
   omega
 ·intro d _ hi
  exact h3 d fun e => hi ⟨b, ab, k, hb, by rw [e]; exact hc⟩
 ·intro b' hlt
  show (if s.n = b' then some ab' else hget b' (hdel b s.H)) = _
  rw [if_neg (by omega), hget_hdel, if_neg (by omega)]
 ·intro b' hlt e
  show (if s.n = b' then some ab' else hget b' (hdel b s.H)) = _
  rw [if_neg (by omega), hget_hdel, e]
  split <;> rfl
 ·rintro d ⟨b', x, kk, e1, e2⟩
  dsimp only at e1 e2
  rcases hg _ _ e1 with ⟨rfl, _⟩ | ⟨n1, m1, f1⟩
  ·rw [upd_same] at e2
   cases e2
   exact .inr ⟨b, ab, _, hb, hc⟩
  ·rw [upd_other _ _ n1] at e2
   exact .inr ⟨b', x, kk, f1, e2⟩
inductive Src (P : PX) (K : Kap) (ρ : Rho) (w : World) : Value -> List AV -> Prop
 | nil {c} : Src P K ρ w (.slice none 0 c) []
 | emp {c off cap} : Src P K ρ w (.slice (some ⟨c, off, none⟩) 0 cap) []
 | row {c off cap l cs xs} : R P K ρ xs (List.replicate xs.length l) cs -> Lies w c off cs -> Src P K ρ w (.slice (some ⟨c, off, none⟩) xs.length cap) xs
 | str {b} : Src P K ρ w (.string b) (bytes (strOf b))
theorem els_ok (hty : TyOk P) (hi : Inv P s) {x : AV} {v : Value} (hv : VR P s.K s.ρ x v) {α : Type} {k : List AV -> Option α} {r : α} (h : els s.H x k = some r) : ∃ xs, Src P s.K s.ρ s.w v xs /\ k xs = some r := by
 cases x <;> first | (cases h; done) | skip
 ·obtain ⟨l, c, hR, he⟩ := hv.known (by simp) (by simp)
  cases hR
  subst he
  exact ⟨_, .str, h⟩
 ·obtain ⟨c, off, cap, l', cs, g1, g2, g3, g4, he⟩ := hv.sv_inv
  subst he
  exact ⟨_, .row (g2.mono (fun _ _ e => e) (fun _ _ e => by cases e)) (g1.lies hi.kok), h⟩
 ·obtain ⟨l, c, hR, he⟩ := hv.known (by simp) (by simp)
  cases hR
  subst he
  exact ⟨_, .nil, h⟩
 ·obtain ⟨l, c, hR, he⟩ := hv.known (by simp) (by simp)
  cases hR
  subst he
  exact ⟨_, .emp, h⟩
 ·rename_i b off n cap op t
  replace h : hk b s.H (fun ab => rows off n ab k) = some r := h
  obtain ⟨ab, hb, h⟩ := hk_some h
  cases ab <;> first | (cases h; done) | skip
  rename_i e q
  replace h : k (take (drop e off) n) = some r := h
  rw [take_eq, drop_eq] at h
  obtain ⟨c, l', m', tot, ccap, g1, g2, g3, g4, g5, g6, hlc, he⟩ := hv.sr_inv
  obtain ⟨c', kk, oo, f1, f2, f3, f4⟩ := hi.hr.blk _ _ hb
  rw [g1] at f1
  cases f1
  cases oo <;> simp only [BR] at f4
  rename_i arr et fz
  obtain ⟨e1, e2, e3, cs, rest, e4, e5, e6⟩ := f4
  obtain ⟨q1, q2⟩ := e5.sub hty (i := off) (j := off + n) (by omega) (by omega)
  have ed : (e.take (off + n)).drop off = (e.drop off).take n := by rw [List.drop_take]; congr 1; omega
  rw [ed] at q1
  have el : ((e.drop off).take n).length = n := by simp; omega
  refine ⟨_, ?_, h⟩
  rw [he]
  have hcl : (off + n - off) = n := by omega
  rw [hcl] at q1 q2
  have hlies : Lies s.w c (off * szl P l') ((cs.drop (off * szl P l')).take (n * szl P l')) := by
   refine ⟨arr, et, fz, f3, ?_⟩
   have hl : ((cs.drop (off * szl P l')).take (n * szl P l')).length = n * szl P l' := by simp; omega
   rw [hl, e4, List.drop_append_of_le_length (by omega), List.take_append_of_le_length (by simp; omega)]
  have := Src.row (P := P) (cap := ccap) q1 hlies
  rw [el] at this
  exact this
def elk (P : PX) (el : TypeId) : Bool := match P.info? el with | some i => ((P.underlying el).isSome && tin P el) && decide (i.bytes <= 65536) && (match i.zero with | some z => z.cells.size == i.size | none => false) | none => false
theorem elk_ok {el : TypeId} (h : elk P el = true) : ∃ i d z, P.info? el = some i /\ P.underlying el = some d /\ i.bytes <= 65536 /\ i.zero = some z /\ z.cells.size = P.cellsOf el /\ i.size = P.cellsOf el /\ tin P el = true := by
 unfold elk at h
 split at h
 ·rename_i i hi
  simp only [Bool.and_eq_true, decide_eq_true_eq] at h
  obtain ⟨⟨h1, h2⟩, h3⟩ := h
  obtain ⟨d, hd⟩ := Option.isSome_iff_exists.1 h1.1
  split at h3
  ·rename_i z hz
   exact ⟨i, d, z, hi, hd, h2, hz, by simpa [Program.cellsOf, hi] using h3, by simp [Program.cellsOf, hi], h1.2⟩
  ·cases h3
 ·cases h
theorem Src.len {K : Kap} {ρ : Rho} {w : World} {v : Value} {xs : List AV} (h : Src P K ρ w v xs) : (Builtin.lenOf v).run P w = .ok xs.length w := by
 cases h
 ·rfl
 ·rfl
 ·rfl
 ·rename_i b
  have : (bytes (strOf b)).length = b.size := by
   rw [<- strOf_len]
   generalize strOf b = l
   induction l with
   | nil => rfl
   | cons x l ih => show (_ :: bytes l).length = _; simp [ih]
  rw [this]
  rfl
theorem R_bytes {K : Kap} {ρ : Rho} (l : List UInt8) : R P K ρ (bytes (l.map UInt8.toNat)) (List.replicate (bytes (l.map UInt8.toNat)).length none) (l.map fun b => .int .u8 (b.toNat : Int)) := by
 induction l with
 | nil => exact .nil
 | cons x l ih => exact .int ih
theorem Src.first (hty : TyOk P) {K : Kap} {ρ : Rho} {w : World} {v : Value} {xs : List AV} (h : Src P K ρ w v xs) {el : TypeId} {d : TypeDesc} (htel : tin P el = true) (hd : P.underlying el = some d) (hh : hc (lcode (lay P el)) xs = true) {m : Nat} (hm : m <= xs.length) :
  ∃ cs, (∀ w', w'.heap = w.heap -> (Builtin.firstCells (P.cellsOf el) m v).run P w' = .ok cs.toArray w') /\ R P K ρ (xs.take m) (List.replicate (xs.take m).length (lay P el)) cs := by
 have hsz := szl_lay hty htel hd
 cases h with
 | nil =>
  obtain rfl : m = 0 := by simpa using hm
  exact ⟨[], fun _ _ => rfl, .nil⟩
 | emp =>
  obtain rfl : m = 0 := by simpa using hm
  refine ⟨[], fun w' _ => ?_, .nil⟩
  simp [Builtin.firstCells, loadCells, loadCellsFrom]
 | row h1 h2 =>
  rename_i c off cap l cs
  by_cases hx : xs = []
  ·subst hx
   obtain rfl : m = 0 := by simpa using hm
   refine ⟨[], fun w' _ => ?_, .nil⟩
   simp [Builtin.firstCells, loadCells, loadCellsFrom]
  ·have hl : l = lay P el := lcode_inj (hc_lay h1 hh hx)
   subst hl
   have hs := h1.size hty
   rw [szs_replicate] at hs
   obtain ⟨q1, _⟩ := h1.split hty m
   rw [List.take_replicate, Nat.min_eq_left hm, szs_replicate] at q1
   have el' : (xs.take m).length = m := by simp; omega
   refine ⟨_, fun w' hw' => ?_, by rw [el']; exact q1⟩
   have hlen : (cs.take (m * szl P (lay P el))).length = m * P.cellsOf el := by
    rw [List.length_take, hs, hsz]
    exact Nat.min_eq_left (Nat.mul_le_mul_right _ hm)
   have hr : w'.rangeAt c off cs := by
    obtain ⟨arr, t, fz, h3, h4⟩ := h2
    exact Lies.range ⟨arr, t, fz, by rw [hw']; exact h3, h4⟩
   have := run_loadCells_list (P := P) w' ⟨c, off, none⟩ (cs.take (m * szl P (lay P el))) (fun j u hu => by
    rw [Addr.add_mid]
    have hlt : j < (cs.take (m * szl P (lay P el))).length := (List.getElem?_eq_some_iff.1 hu).1
    rw [List.length_take] at hlt
    rw [List.getElem?_take_of_lt (by omega)] at hu
    exact hr j u hu)
   rw [hlen] at this
   simp only [Builtin.firstCells]
   exact this
 | str =>
  rename_i b
  have e0 : strOf b = b.toList.map UInt8.toNat := rfl
  have hb : (bytes (strOf b)).length = b.size := by
   rw [<- strOf_len]
   generalize strOf b = l
   induction l with
   | nil => rfl
   | cons x l ih => show (_ :: bytes l).length = _; simp [ih]
  by_cases hx : bytes (strOf b) = []
  ·rw [hx] at hm hb ⊢
   obtain rfl : m = 0 := by simpa using hm
   refine ⟨[], fun w' _ => ?_, .nil⟩
   simp [Builtin.firstCells]
  ·have hR := R_bytes (P := P) (K := K) (ρ := ρ) b.toList
   rw [<- e0] at hR
   have hl : none = lay P el := lcode_inj (hc_lay hR hh hx)
   obtain ⟨q1, _⟩ := hR.split hty m
   rw [List.take_replicate, Nat.min_eq_left hm, szs_replicate] at q1
   have el' : ((bytes (strOf b)).take m).length = m := by simp; omega
   refine ⟨_, fun w' _ => ?_, by rw [el', <- hl]; exact q1⟩
   simp only [Builtin.firstCells, Sem.run_pure, szl, Nat.mul_one]
   congr 1
   apply Array.toList_inj.1
   simp [ByteArray.toList_eq]
end
end Go.Proofs.YtgaghaggiblabaaGreatDoor.Ev
namespace Go.Proofs.YtgaghaggiblabaaGreatDoor.Ev
open Go.RowKit
section
variable {P : PX} {o : Oper} {a : Act} {s : St} {wm : Nat} {Kt : Kv} {r : AV × Nat × Hp}
theorem nextcap_le {need cap : Nat} (h : cap < need) (hn : need <= 1000000) : Builtin.nextslicecap need cap <= 4000000 := by
 unfold Builtin.nextslicecap
 split
 ·omega
 ·split
  ·omega
  ·have grow : ∀ (rounds c : Nat) (B : Nat), c <= B -> Builtin.growBy need rounds c <= B * 2 ^ rounds + 768 * (2 ^ rounds - 1) := by
    intro rounds
    induction rounds with
    | zero => intro c B hc; simpa [Builtin.growBy] using hc
    | succ k ih =>
     intro c B hc
     rw [Builtin.growBy]
     have h2 : 1 <= 2 ^ k := Nat.one_le_two_pow
     split
     ·rw [Nat.pow_succ]
      have : B <= B * (2 ^ k * 2) := Nat.le_mul_of_pos_right _ (by omega)
      omega
     ·have := ih (c + (c + 768) / 4) (2 * B + 768) (by omega)
      rw [Nat.pow_succ]
      have e : (2 * B + 768) * 2 ^ k = B * (2 ^ k * 2) + 768 * 2 ^ k := by rw [Nat.add_mul]; congr 1; rw [Nat.mul_comm 2 B, Nat.mul_assoc, Nat.mul_comm 2]
      omega
   have := grow 4 cap 200000
   by_cases hc : cap <= 200000
   ·have := grow 4 cap 200000 hc
    simp at this
    omega
   · -- a great capacity: each round adds at most a quarter and a little
    have step : ∀ (rounds c : Nat), c <= 4000000 -> (c + 768) / 4 <= c / 2 -> Builtin.growBy need rounds c <= max c (need + need / 2) := by
     intro rounds
     induction rounds with
     | zero => intro c _ _; simp [Builtin.growBy]; omega
     | succ k ih =>
      intro c hc hq
      rw [Builtin.growBy]
      split
      ·omega
      ·rename_i hlt
       have := ih (c + (c + 768) / 4) (by omega) (by omega)
       omega
    have := step 4 cap (by omega) (by omega)
    omega
theorem run_append_in {sT xT el : TypeId} {ty : TypeId} {i : TypeInfo} {d : TypeDesc} (hu : P.underlying sT = some (.slice el)) (hx : ∃ dx, P.underlying xT = some dx /\ ∀ k, dx ≠ .int k) (hi : P.info? el = some i) (hd : P.underlying el = some d)
  {A : Option Addr} {n cap m : Nat} {x : Value} {cs : List Value} {w w' : World} (h1 : (Builtin.lenOf x).run P w = .ok m w) (h2 : (Builtin.firstCells (P.cellsOf el) m x).run P w = .ok cs.toArray w) (h3 : n + m <= cap)
  (h4 : ∀ b, A = some b -> (storeCells (b.add (n * P.cellsOf el)) cs).run P w = .ok () w') (h5 : A = none -> w' = w) : (Builtin.append_ #[sT, xT] ty #[.slice A n cap, x]).run P w = .ok (.slice A (n + m) cap) w' := by
 obtain ⟨dx, hx1, hx2⟩ := hx
 have hs : i.size = P.cellsOf el := by simp [Program.cellsOf, hi]
 have hz : (match dx with | .int _ => true | _ => false) = false := by
  cases dx <;> first | rfl | exact absurd rfl (hx2 _)
 cases A with
 | none =>
  have := h5 rfl
  subst this
  simp [Builtin.append_, run_underlying hu, run_underlying hx1, sizeOf, typeInfo, hi, hs, h1, h2, h3]
 | some b =>
  have := h4 b rfl
  simp [Builtin.append_, run_underlying hu, run_underlying hx1, sizeOf, typeInfo, hi, hs, h1, h2, h3]
  cases dx <;> simp_all
set_option maxHeartbeats 4000000 in
theorem run_append_new {sT xT el : TypeId} {ty : TypeId} {i : TypeInfo} {d : TypeDesc} {z : Value} (hu : P.underlying sT = some (.slice el)) (hx : ∃ dx, P.underlying xT = some dx /\ ∀ k, dx ≠ .int k) (hi : P.info? el = some i) (hd : P.underlying el = some d)
  (hz : i.zero = some z) (hb : i.bytes <= 65536) {A : Option Addr} {n cap m : Nat} {x : Value} {cs ds : List Value} {w : World} (h0 : (Builtin.lenOf x).run P w = .ok m w) (h1 : ∀ w', w'.heap = w.heap -> (Builtin.firstCells (P.cellsOf el) n (.slice A n cap)).run P w' = .ok ds.toArray w')
  (h2 : ∀ w', w'.heap = w.heap -> (Builtin.firstCells (P.cellsOf el) m x).run P w' = .ok cs.toArray w') (h3 : ¬ n + m <= cap) (h4 : n + m <= 1000000) :
  ∃ N, n + m <= N /\ (Builtin.append_ #[sT, xT] ty #[.slice A n cap, x]).run P w = .ok (.slice (some ⟨w.heap.size, 0, none⟩) (n + m) N)
   (w.drew.alloc (.cells (ds.toArray ++ (cs.toArray ++ Builtin.zeroCells z.cells (N - (n + m)))) el)) := by
 obtain ⟨dx, hx1, hx2⟩ := hx
 have hs : i.size = P.cellsOf el := by simp [Program.cellsOf, hi]
 have hnc := nextcap_le (need := n + m) (cap := cap) (by omega) h4
 have hbig : ¬ Builtin.nextslicecap (n + m) cap * i.bytes > 2 ^ 48 := by
  have : Builtin.nextslicecap (n + m) cap * i.bytes <= 4000000 * 65536 := Nat.mul_le_mul hnc hb
  omega
 refine ⟨(Question.appendCap (n + m) cap el).cut (w.tape w.drawn (.appendCap (n + m) cap el)), by simp [Question.cut], ?_⟩
 have hmax : ¬ (9223372036854775807 < (n : Int) + m /\ i.bytes = 0) := by omega
 have e1 := h1 w.drew rfl
 have e2 := h2 w.drew rfl
 have hf : (Question.appendCap (n + m) cap el).forced = false := rfl
 have hroom : ∀ (k : Nat) (v : World), (askRoom k).run P v = .ok () v := by
  intro k v
  unfold askRoom
  split <;> rfl
 have hzv : ∀ v : World, (zeroValue el).run P v = .ok z v := fun v => run_zeroValue hi hz v
 have hnr : ∀ (cells : Array Value) (v : World), (newRow el cells).run P v = .ok ⟨v.heap.size, 0, none⟩ (v.alloc (.cells cells el)) := fun cells v => run_newRow v el cells
 unfold Builtin.append_
 simp only [List.getElem?_toArray, List.getElem?_cons_zero, List.getElem?_cons_succ]
 cases dx <;> first
  | exact absurd rfl (hx2 _)
  | simp [run_underlying hu, run_underlying hx1, sizeOf, typeInfo, hi, hs, h0, h3, hbig, hmax, hf, e1, e2, hroom, hzv, hnr]
end
end Go.Proofs.YtgaghaggiblabaaGreatDoor.Ev
namespace Go.Proofs.YtgaghaggiblabaaGreatDoor.Ev
open Go.RowKit
section
variable {P : PX} {o : Oper} {a : Act} {s : St} {wm : Nat} {Kt : Kv} {r : AV × Nat × Hp}
theorem Src.heap {K : Kap} {ρ : Rho} {w w' : World} (h : w'.heap = w.heap) {v : Value} {xs : List AV} (hs : Src P K ρ w v xs) : Src P K ρ w' v xs := by
 cases hs with
 | nil => exact .nil
 | emp => exact .emp
 | row h1 h2 =>
  obtain ⟨arr, t, fz, h3, h4⟩ := h2
  exact .row h1 ⟨arr, t, fz, by rw [h]; exact h3, h4⟩
 | str => exact .str
theorem Src.mono {K K' : Kap} {ρ ρ' : Rho} (hk : Kle K K') (hr : Rle ρ ρ') {w : World} {v : Value} {xs : List AV} (hs : Src P K ρ w v xs) : Src P K' ρ' w v xs := by
 cases hs with
 | nil => exact .nil
 | emp => exact .emp
 | row h1 h2 => exact .row (h1.mono hk hr) h2
 | str => exact .str
theorem zeroCells_size (z : Array Value) (n : Nat) : (Builtin.zeroCells z n).size = n * z.size := by simp [Builtin.zeroCells]
structure ApOk (P : PX) (sT xT el : TypeId) : Prop where
 s : P.underlying sT = some (.slice el)
 x : ∃ dx, P.underlying xT = some dx /\ ∀ k, dx ≠ .int k
 e : elk P el = true
theorem newr_ok (hty : TyOk P) (hi : Inv P s) (hw : wm <= s.n) {sT xT el ty : TypeId} (hT : ApOk P sT xT el) {A : Option Addr} {n cap : Nat} {v : Value} {bs xs : List AV} (h1 : Src P s.K s.ρ s.w (.slice A n cap) bs) (hn : n = bs.length) (h2 : Src P s.K s.ρ s.w v xs)
  (c1 : hc (lcode (lay P el)) bs = true) (c2 : hc (lcode (lay P el)) xs = true) (hc : ¬ n + xs.length <= cap) {H' : Hp} (hH : ∃ t : St, Ext P wm s t /\ t.K = s.K /\ t.ρ = s.ρ /\ t.n = s.n /\ t.H = H' /\ t.w = s.w) (h : newr (lcode (lay P el)) s.n H' (bs ++ xs) Kt = some r) :
  ∃ res av t, (Builtin.append_ #[sT, xT] ty #[.slice A n cap, v]).run P s.w = .ok res t.w /\ VR P t.K t.ρ av res /\ Ext P wm s t /\ Kt av t.n t.H = some r := by
 obtain ⟨hok, hk⟩ := brec_some h
 have hok := Nat.le_of_ble_eq_true hok
 rw [len_eq, List.length_append] at hok hk
 obtain ⟨i, d, z, e1, e2, e3, e4, e5, e6, etn⟩ := elk_ok hT.e
 have f1 : ∃ ds, R P s.K s.ρ bs (List.replicate bs.length (lay P el)) ds /\ ∀ w', w'.heap = s.w.heap -> (Builtin.firstCells (P.cellsOf el) n (.slice A n cap)).run P w' = .ok ds.toArray w' := by
  obtain ⟨ds, q1, q2⟩ := h1.first hty etn e2 c1 (Nat.le_refl _)
  rw [List.take_length] at q2
  exact ⟨ds, q2, fun w' hw' => by rw [show (Builtin.firstCells (P.cellsOf el) n (.slice A n cap)).run P w' = (Builtin.firstCells (P.cellsOf el) bs.length (.slice A n cap)).run P w' by rw [<- hn]]; exact q1 w' hw'⟩
 have f2 : ∃ cs, R P s.K s.ρ xs (List.replicate xs.length (lay P el)) cs /\ ∀ w', w'.heap = s.w.heap -> (Builtin.firstCells (P.cellsOf el) xs.length v).run P w' = .ok cs.toArray w' := by
  obtain ⟨ds, q1, q2⟩ := h2.first hty etn e2 c2 (Nat.le_refl _)
  rw [List.take_length] at q2
  exact ⟨ds, q2, q1⟩
 obtain ⟨ds, r1, r2⟩ := f1
 obtain ⟨cs, r3, r4⟩ := f2
 obtain ⟨M, hM, hrun⟩ := run_append_new (ty := ty) hT.s hT.x e1 e2 e4 e3 h2.len r2 r4 hc (by omega)
 obtain ⟨⟨tK, tρ, tn, tH, tw⟩, ht, rfl, rfl, rfl, rfl, rfl⟩ := hH
 have hw1 := Ext.world (wm := wm) ht.inv (w' := s.w.drew) rfl rfl rfl rfl
 have hR := r1.app r3
 rw [List.replicate_append_replicate] at hR
 have hsz := szl_lay hty etn e2
 have hs1 := r1.size hty
 have hs2 := r3.size hty
 rw [szs_replicate] at hs1 hs2
 have hbr : BR P s.K s.ρ (.row (bs ++ xs) true) (.row (lay P el) (bs ++ xs).length (M * P.cellsOf el)) (.cells (ds.toArray ++ (cs.toArray ++ Builtin.zeroCells z.cells (M - (n + xs.length)))) el) := by
  refine ⟨rfl, ?_, rfl, ds ++ cs, (Builtin.zeroCells z.cells (M - (n + xs.length))).toList, by simp, ?_, fun e => by cases e⟩
  ·simp [zeroCells_size, hs1, hs2, hsz, e5, hn]
   rw [<- Nat.add_assoc, <- Nat.add_mul, <- Nat.add_mul]
   congr 1
   omega
  ·simpa using hR
 have hal := Ext.alloc (wm := wm) hw1.inv (by dsimp only; omega) hbr
 refine ⟨.slice (some ⟨s.w.heap.size, 0, none⟩) (n + xs.length) M, .sr s.n 0 (bs.length + xs.length) (bs.length + xs.length) true (lcode (lay P el)), _, hrun, ?_, (ht.trans hw1).trans hal, hk⟩
 have := R.sr (P := P) (K := s.K) (ρ := upd s.ρ s.n (s.w.heap.size, .row (lay P el) (bs ++ xs).length (M * P.cellsOf el))) (b := s.n) (off := 0) (n := bs.length + xs.length) (cap := bs.length + xs.length) (op := true) (ccap := M)
  (upd_same _ _ _) (Nat.le_refl _) (by simp) (by omega) (fun e => by cases e) (by rw [Nat.zero_add, hsz]; exact Nat.le_refl _) .nil
 have := VR.of (l := none) this
 simp only [pk, List.headD_cons, Nat.zero_mul] at this
 rw [hn]
 exact this
end
end Go.Proofs.YtgaghaggiblabaaGreatDoor.Ev
namespace Go.Proofs.YtgaghaggiblabaaGreatDoor.Ev
open Go.RowKit
section
variable {P : PX} {o : Oper} {a : Act} {s : St} {wm : Nat} {Kt : Kv} {r : AV × Nat × Hp}
theorem run_storeCells_in {c off : Nat} {arr : Array Value} {e : TypeId} {d : List Value} {w : World} (h1 : ∀ u ∈ d, u.oneCell' = true) (hw : w.heap[c]? = some (.cells arr e (0, 0))) (hf : off + d.length <= arr.size) :
  (storeCells ⟨c, off, none⟩ d).run P w = .ok () (w.setRow c (arr.toList.take off ++ d ++ arr.toList.drop (off + d.length)).toArray) := by
 have := run_storeCells_at P c off e d 0 arr w hw (by simpa using hf) h1
 simpa using this
theorem R.splice {K : Kap} {ρ : Rho} (hty : TyOk P) {e xs : List AV} {l : Lay} {cs ds : List Value} (h : R P K ρ e (List.replicate e.length l) cs) (h' : R P K ρ xs (List.replicate xs.length l) ds) {i : Nat} (hi : i + xs.length <= e.length) :
  R P K ρ (e.take i ++ (xs ++ e.drop (i + xs.length))) (List.replicate e.length l) (cs.take (i * szl P l) ++ (ds ++ cs.drop (i * szl P l + ds.length))) := by
 obtain ⟨q1, _⟩ := h.split hty i
 obtain ⟨_, q2⟩ := h.split hty (i + xs.length)
 rw [List.take_replicate, Nat.min_eq_left (by omega), szs_replicate] at q1
 rw [List.drop_replicate, List.take_replicate, Nat.min_eq_left (by omega), szs_replicate, Nat.add_mul] at q2
 have hs := h'.size hty
 rw [szs_replicate] at hs
 have := q1.app (h'.app q2)
 rw [List.replicate_append_replicate, List.replicate_append_replicate, <- hs] at this
 have e1 : i + (xs.length + (e.length - (i + xs.length))) = e.length := by omega
 rwa [e1] at this
set_option maxHeartbeats 1000000 in
theorem apnd_ok (hty : TyOk P) (hi : Inv P s) (hw : wm <= s.n) {sT xT el ty : TypeId} (hT : ApOk P sT xT el) {x : AV} {u v : Value} {xs : List AV} (hx : VR P s.K s.ρ x u) (hs : Src P s.K s.ρ s.w v xs)
  (h : apnd (lcode (lay P el)) wm s.n s.H x xs Kt = some r) :
  ∃ res av t, (Builtin.append_ #[sT, xT] ty #[u, v]).run P s.w = .ok res t.w /\ VR P t.K t.ρ av res /\ Ext P wm s t /\ Kt av t.n t.H = some r := by
 have hq := brec_some h
 clear h
 obtain ⟨c2, h⟩ := hq
 obtain ⟨i, d, z, e1, e2, e3, e4, e5, e6, etn⟩ := elk_ok hT.e
 have hsz := szl_lay hty etn e2
 have hself : ∃ t : St, Ext P wm s t /\ t.K = s.K /\ t.ρ = s.ρ /\ t.n = s.n /\ t.H = s.H /\ t.w = s.w := ⟨s, .refl hi, rfl, rfl, rfl, rfl, rfl⟩
 cases x <;> first | (cases h; done) | skip
 case sv es full =>
  obtain ⟨c, off, cap, l', cs, g1, g2, g3, g4, he⟩ := hx.sv_inv
  subst he
  have hb : Src P s.K s.ρ s.w (.slice (some ⟨c, off, none⟩) es.length cap) es := .row (g2.mono (fun _ _ e => e) (fun _ _ e => by cases e)) (g1.lies hi.kok)
  cases xs with
  | nil =>
   refine ⟨.slice (some ⟨c, off, none⟩) es.length cap, .sv es full, s, ?_, hx, .refl hi, h⟩
   have hf := (hs.first hty etn e2 c2 (Nat.le_refl _)).choose_spec
   obtain ⟨ds, q1, q2⟩ := hs.first hty etn e2 c2 (Nat.le_refl _)
   have hds : ds = [] := by cases q2; rfl
   subst hds
   have := run_append_in (ty := ty) hT.s hT.x e1 e2 (A := some ⟨c, off, none⟩) (n := es.length) (cap := cap) (w := s.w) (w' := s.w) hs.len (q1 _ rfl) (by simpa using g3) (fun b _ => rfl) (fun e => by cases e)
   simpa using this
  | cons y ys =>
   obtain ⟨hb1, h⟩ := brec_some h
   obtain ⟨b1, b2⟩ := and3 hb1
   rw [app_eq] at h
   have hcap := g4 b1
   exact newr_ok hty hi hw hT hb rfl hs b2 c2 (by simp; omega) hself h
 case sn =>
  obtain ⟨_, _, hR, he⟩ := hx.known (by simp) (by simp)
  cases hR
  have he : u = .slice none 0 0 := he
  subst he
  cases xs with
  | nil =>
   obtain ⟨ds, q1, q2⟩ := hs.first hty etn e2 c2 (Nat.le_refl _)
   have hds : ds = [] := by cases q2; rfl
   subst hds
   refine ⟨.slice none 0 0, .sn, s, ?_, hx, .refl hi, h⟩
   have := run_append_in (ty := ty) hT.s hT.x e1 e2 (A := none) (n := 0) (cap := 0) (w := s.w) (w' := s.w) hs.len (q1 _ rfl) (Nat.le_refl _) (fun b e => by cases e) (fun _ => rfl)
   simpa using this
  | cons y ys =>
   exact newr_ok hty hi hw hT .nil rfl hs rfl c2 (by simp) hself h
 case sr b off n cap op tt =>
  obtain ⟨hb1, h⟩ := brec_some h
  obtain ⟨b1, b2⟩ := and3 hb1
  have b1 := Nat.le_of_ble_eq_true b1
  have b2 := beq_true.1 b2
  obtain ⟨ab, hb, h⟩ := hk_some h
  cases ab <;> first | (cases h; done) | skip
  rename_i e q
  obtain ⟨c, l', m', tot, ccap, g1, g2, g3, g4, g5, g6, hlc, he⟩ := hx.sr_inv
  have hl' : l' = lay P el := lcode_inj (by rw [hlc, b2])
  subst hl'
  have hsrc : Src P s.K s.ρ s.w u ((e.drop off).take n) := by
   obtain ⟨ys, q1, q2⟩ := els_ok (k := some) hty hi hx (r := take (drop e off) n) (by
    show hk b s.H (fun ab => rows off n ab some) = _
    rw [hk_eq, hb]
    rfl)
   cases q2
   rw [take_eq, drop_eq] at q1
   exact q1
  obtain ⟨c', kk, oo, f1, f2, f3, f4⟩ := hi.hr.blk _ _ hb
  rw [g1] at f1
  cases f1
  cases oo <;> simp only [BR] at f4
  rename_i arr et fz
  obtain ⟨m1, m2, rfl, cs, rest, m4, m5, m6⟩ := f4
  obtain ⟨ds, q1, q2⟩ := hs.first hty etn e2 c2 (Nat.le_refl _)
  rw [List.take_length] at q2
  have hds := q2.size hty
  have hcs := m5.size hty
  rw [szs_replicate] at hds hcs
  have hal : arr.toList.length = cs.length + rest.length := by rw [m4]; simp
  have has : arr.size = arr.toList.length := by simp
  replace h : (Bool.rec
   (Bool.rec (newr (lcode (lay P el)) s.n s.H (app (take (drop e off) n) xs) Kt) (Bool.rec none (newr (lcode (lay P el)) s.n (hdel b s.H) (app (take e n) xs) Kt) (Nat.beq off 0)) op)
   (Kt (.sr b off (Nat.add n (len xs)) cap op (lcode (lay P el))) s.n (hset b (.row (app (take e (Nat.add off n)) (app xs (drop e (Nat.add off (Nat.add n (len xs)))))) q) s.H)) (Nat.ble (Nat.add n (len xs)) cap) : Option (AV × Nat × Hp)) = some r := h
  rw [len_eq, app_eq, app_eq, app_eq, app_eq, take_eq, drop_eq, take_eq, take_eq, drop_eq, brec_ble] at h
  have hn : ((e.drop off).take n).length = n := by simp; omega
  have hcode : hc (lcode (lay P el)) ((e.drop off).take n) = true := by
   cases hx0 : (e.drop off).take n with
   | nil => rfl
   | cons y ys =>
    have := (m5.sub hty (i := off) (j := off + n) (by omega) (by omega)).1
    have ed : (e.take (off + n)).drop off = (e.drop off).take n := by rw [List.drop_take]; congr 1; omega
    rw [ed, hx0] at this
    simp only [List.length_cons, List.replicate_succ] at this
    obtain ⟨_, _, _, p1, _⟩ := this.uncons
    exact beq_true.2 (lc_eq p1).symm
  subst he
  by_cases hin : n + xs.length <= ccap
  · -- there is room
   have hfit : off * szl P (lay P el) + n * szl P (lay P el) + ds.length <= arr.size := by
    rw [hds, <- Nat.add_mul, <- Nat.add_mul, <- m2]
    exact Nat.le_trans (Nat.mul_le_mul_right _ (by omega)) g6
   have hst := run_storeCells_in (P := P) q2.one f3 hfit
   have hrun := run_append_in (ty := ty) hT.s hT.x e1 e2 (A := some ⟨c, off * szl P (lay P el), none⟩) (n := n) (cap := ccap) (w := s.w) hs.len (q1 _ rfl) hin (fun b hb => by cases hb; rw [Addr.add_mid, <- hsz]; exact hst) (fun e => by cases e)
   by_cases hcc : n + xs.length <= cap
   ·rw [if_pos (show Nat.add n xs.length <= cap from hcc)] at h
    have hsp := m5.splice hty q2 (i := off + n) (by omega)
    have hlen : (e.take (off + n) ++ (xs ++ e.drop (off + n + xs.length))).length = e.length := by simp; omega
    have hext := Ext.store (wm := wm) (w' := s.w.setRow c (arr.toList.take (off * szl P (lay P el) + n * szl P (lay P el)) ++ ds ++ arr.toList.drop (off * szl P (lay P el) + n * szl P (lay P el) + ds.length)).toArray) (ab' := .row (e.take (off + n) ++ (xs ++ e.drop (off + n + xs.length))) q) hi hb b1 g1 (setRow_heap _ _ _ _ _ _ f3) (by
     refine ⟨by rw [hlen]; exact m1, ?_, rfl, _, rest, ?_, by rw [hlen]; exact hsp, m6⟩
     ·simp
      omega
     ·rw [m4, <- Nat.add_mul]
      have hle : (off + n) * szl P (lay P el) + ds.length <= cs.length := by
       rw [hds, hcs, <- Nat.add_mul]
       exact Nat.mul_le_mul_right _ (by omega)
      rw [List.take_append_of_le_length (by omega), List.drop_append_of_le_length (by omega)]
      simp) (fun dd hd => setRow_other _ _ _ _ hd) (setRow_size _ _ _) rfl rfl rfl
    refine ⟨_, .sr b off (n + xs.length) cap op (lcode (lay P el)), _, hrun, ?_, hext, ?_⟩
    ·exact VR.of (l := none) (R.sr g1 hcc g3 g4 g5 g6 .nil)
    ·have ea : Nat.add off (Nat.add n xs.length) = off + n + xs.length := by show off + (n + xs.length) = _; omega
     rw [ea] at h
     exact h
   ·rw [if_neg (show ¬ Nat.add n xs.length <= cap from hcc)] at h
    cases op with
    | false =>
     have := g5 rfl
     omega
    | true =>
     replace h : (Bool.rec none (newr (lcode (lay P el)) s.n (hdel b s.H) (e.take n ++ xs) Kt) (Nat.beq off 0) : Option (AV × Nat × Hp)) = some r := h
     obtain ⟨h0, h⟩ := brec_some h
     have h0 := beq_true.1 h0
     subst h0
     obtain ⟨hok, hk⟩ := brec_some h
     rw [len_eq] at hk
     obtain ⟨p1, _⟩ := m5.split hty n
     rw [List.take_replicate, Nat.min_eq_left (by omega), szs_replicate] at p1
     have hlen : (e.take n ++ xs).length = n + xs.length := by simp; omega
     rw [Nat.zero_mul] at hfit hst hrun ⊢
     rw [Nat.zero_add] at hfit hst hrun
     have hle : n * szl P (lay P el) <= cs.length := by rw [hcs]; exact Nat.mul_le_mul_right _ (by omega)
     have hext := Ext.move (wm := wm) (w' := s.w.setRow c (arr.toList.take (n * szl P (lay P el)) ++ ds ++ arr.toList.drop (n * szl P (lay P el) + ds.length)).toArray) (ab' := .row (e.take n ++ xs) true) (k' := .row (lay P el) (n + xs.length) tot) hi hb b1 hw g1 (setRow_heap _ _ _ _ _ _ f3) (by
      refine ⟨hlen.symm, ?_, rfl, cs.take (n * szl P (lay P el)) ++ ds, arr.toList.drop (n * szl P (lay P el) + ds.length), ?_, ?_, fun e => by cases e⟩
      ·rw [m2]
       simp
       omega
      ·rw [m4, List.take_append_of_le_length hle]
      ·rw [hlen]
       have := p1.app q2
       rwa [List.replicate_append_replicate] at this) (fun dd hd => setRow_other _ _ _ _ hd) (setRow_size _ _ _) rfl rfl rfl
     rw [hlen] at hk
     refine ⟨.slice (some ⟨c, 0, none⟩) (n + xs.length) ccap, .sr s.n 0 (n + xs.length) (n + xs.length) true (lcode (lay P el)), ⟨s.K, upd s.ρ s.n (c, .row (lay P el) (n + xs.length) tot), s.n + 1, (s.n, .row (e.take n ++ xs) true) :: hdel b s.H, s.w.setRow c (arr.toList.take (n * szl P (lay P el)) ++ ds ++ arr.toList.drop (n * szl P (lay P el) + ds.length)).toArray⟩, hrun, ?_, hext, ?_⟩
     rotate_left
     ·exact hk
     have := R.sr (P := P) (K := s.K) (ρ := upd s.ρ s.n (c, .row (lay P el) (n + xs.length) tot)) (b := s.n) (off := 0) (n := n + xs.length) (cap := n + xs.length) (op := true) (ccap := ccap) (upd_same _ _ _) (Nat.le_refl _) (by omega) hin (fun e => by cases e) g6 .nil
     have := VR.of (l := none) this
     simpa [pk] using this
  · -- a new row
   have hcc : ¬ n + xs.length <= cap := by omega
   rw [if_neg (show ¬ Nat.add n xs.length <= cap from hcc)] at h
   cases op with
   | false =>
    replace h : newr (lcode (lay P el)) s.n s.H ((e.drop off).take n ++ xs) Kt = some r := h
    exact newr_ok hty hi hw hT hsrc hn.symm hs hcode c2 hin hself h
   | true =>
    replace h : (Bool.rec none (newr (lcode (lay P el)) s.n (hdel b s.H) (e.take n ++ xs) Kt) (Nat.beq off 0) : Option (AV × Nat × Hp)) = some r := h
    obtain ⟨h0, h⟩ := brec_some h
    have h0 := beq_true.1 h0
    subst h0
    rw [List.drop_zero] at hsrc hn hcode
    exact newr_ok hty hi hw hT hsrc hn.symm hs hcode c2 hin ⟨_, Ext.forget hi b1, rfl, rfl, rfl, rfl, rfl⟩ h
end
end Go.Proofs.YtgaghaggiblabaaGreatDoor.Ev
namespace Go.Proofs.YtgaghaggiblabaaGreatDoor.Ev
open Go.RowKit
section
variable {P : PX} {o : Oper} {a : Act} {s : St} {wm : Nat} {Kt : Kv} {r : AV × Nat × Hp}
theorem fold_set (off : Nat) : ∀ (l : List Value) (k : Nat) (cells : Array Value), off + k + l.length <= cells.size ->
  ((l.zipIdx k).foldl (fun (cs : Array Value) (p : Value × Nat) => cs.setIfInBounds (off + p.2) p.1) cells).toList = cells.toList.take (off + k) ++ l ++ cells.toList.drop (off + k + l.length)
 | [], k, cells, _ => by simp
 | v :: l, k, cells, h => by
  rw [List.zipIdx_cons, List.foldl_cons]
  rw [fold_set off l (k + 1) _ (by simp at h ⊢; omega)]
  have hlt : off + k < cells.toList.length := by simp at h ⊢; omega
  rw [Array.toList_setIfInBounds]
  apply List.ext_getElem?
  intro j
  simp only [List.getElem?_append, List.getElem?_take, List.getElem?_drop, List.length_append, List.length_take, List.length_set, List.getElem?_set, List.length_cons]
  grind
theorem fill_one (place : Nat -> Option (Nat × Nat)) (cells : Array Value) (i : Nat) (v : Value) (rest : List (Nat × Value)) {off size : Nat} (hp : place i = some (off, size)) (hs : v.cells.size = size) (hf : off + size <= cells.size) :
  Instr.fill place cells ((i, v) :: rest) = Instr.fill place (cells.toList.take off ++ v.cells.toList ++ cells.toList.drop (off + size)).toArray rest := by
 rw [Instr.fill, hp]
 have h1 : ¬ (v.cells.size ≠ size || decide (off + v.cells.size > cells.size)) = true := by
  simp [hs]
  omega
 simp only []
 rw [if_neg h1]
 have := fold_set off v.cells.toList 0 cells (by simp; omega)
 simp only [Nat.add_zero] at this
 rw [<- Array.foldl_toList, Array.toList_zipIdx]
 congr 1
 apply Array.toList_inj.1
 rw [this]
 simp [hs]
def pom (P : PX) : List (Nat × O) -> List (Nat × Operand) -> Bool
 | [], [] => true
 | (i, x) :: xs, (j, y) :: ys => Nat.beq i j && om x y && pom P xs ys
 | _, _ => false
theorem build_ok (hty : TyOk P) {K : Kap} {ρ : Rho} {N : Fr} {T : Tm} (ht : TR P K ρ N T a) {place : Nat -> Option (Nat × Nat)} {ls : List Lay} (hpl : ∀ i l, ls[i]? = some l -> place i = some (szs P (ls.take i), szl P l)) :
  ∀ {ps : List (Nat × O)} {qs : List (Nat × Operand)} {fs : List AV} {cells : List Value} {α : Type} {k : List AV -> Option α} {r : α}, pom P ps qs = true -> R P K ρ fs ls cells -> build T ps fs k = some r ->
   ∃ fs' cells', Instr.fill place cells.toArray (qs.map fun p => (p.1, a.eval p.2)) = some cells'.toArray /\ R P K ρ fs' ls cells' /\ k fs' = some r := by
 intro ps
 induction ps with
 | nil =>
  intro qs fs cells α k r hp hR h
  cases qs with
  | nil => exact ⟨fs, cells, rfl, hR, h⟩
  | cons q qs => cases hp
 | cons p ps ih =>
  intro qs fs cells α k r hp hR h
  obtain ⟨i, x⟩ := p
  cases qs with
  | nil => cases hp
  | cons q qs =>
   obtain ⟨j, y⟩ := q
   simp only [pom, Bool.and_eq_true] at hp
   obtain ⟨⟨h1, h2⟩, h3⟩ := hp
   have := beq_true.1 h1
   subst this
   replace h : nth fs i (fun a => Bool.rec none (build T ps (lset fs i (ev T x)) k) (like a (ev T x))) = some r := h
   obtain ⟨z, hz, h'⟩ := nth_some h
   obtain ⟨hl, hk⟩ := brec_some h'
   have hv := om_ok h2 ht
   generalize ev T x = av at hl hk hv
   have hkn : av ≠ .top /\ ∀ l, av ≠ .tup l := by
    constructor
    ·rintro rfl; cases z <;> simp [like] at hl
    ·rintro l rfl; cases z <;> simp [like] at hl
   obtain ⟨l, d, hR', he⟩ := hv.known hkn.1 hkn.2
   obtain ⟨l0, g1, g2, g3⟩ := hR.get hty hz
   have := like_lay g2 hR' hl
   subst this
   rw [lset_eq] at hk
   have hset := hR.set hty g1 hR'
   have hd := hR'.size hty
   simp only [szs, List.map_cons, List.map_nil, List.sum_cons, List.sum_nil, Nat.add_zero] at hd
   have hc := pk_cells hR'
   rw [<- he] at hc
   have hcs : (a.eval y).cells.size = szl P l0 := by rw [<- hd, <- hc]; simp
   obtain ⟨fs', cells', q1, q2, q3⟩ := ih h3 hset hk
   refine ⟨fs', cells', ?_, q2, q3⟩
   rw [List.map_cons, fill_one _ _ _ _ _ (hpl i l0 g1) hcs (by simpa using g3), hc]
   simpa using q1
theorem R_replicate {K : Kap} {ρ : Rho} {z : AV} {l : Lay} {c : List Value} (h : R P K ρ [z] [l] c) (n : Nat) : R P K ρ (List.replicate n z) (List.replicate n l) (List.replicate n c).flatten := by
 induction n with
 | zero => exact .nil
 | succ n ih => simpa [List.replicate_succ] using h.cons ih
theorem flatten_get (c : List Value) (hc : c ≠ []) : ∀ (n i : Nat), i < n * c.length -> (List.replicate n c).flatten[i]? = c[i % c.length]?
 | 0, i, h => by simp at h
 | n + 1, i, h => by
  have hp : 0 < c.length := List.length_pos_iff.2 hc
  rw [List.replicate_succ, List.flatten_cons, List.getElem?_append]
  split
  ·rename_i h1
   rw [Nat.mod_eq_of_lt h1]
  ·rename_i h1
   rw [flatten_get c hc n (i - c.length) (by rw [Nat.add_mul, Nat.one_mul] at h; omega), <- Nat.mod_eq_sub_mod (by omega)]
theorem zero_row (c : Array Value) (n : Nat) (hc : n * c.size ≠ 0) : ((Array.range (n * c.size)).map (fun i => c[i % c.size]!)).toList = (List.replicate n c.toList).flatten := by
 have hne : c.toList ≠ [] := by
  intro e
  apply hc
  have : c.size = 0 := by rw [<- Array.length_toList, e]; rfl
  simp [this]
 have hp : 0 < c.size := by
  rw [<- Array.length_toList]
  exact List.length_pos_iff.2 hne
 apply List.ext_getElem?
 intro i
 by_cases hi : i < n * c.size
 ·rw [flatten_get _ hne _ _ (by simpa using hi)]
  have hm := Nat.mod_lt i hp
  simp [hi, hm]
 ·rw [List.getElem?_eq_none (by simp; omega), List.getElem?_eq_none (by simp [List.length_flatten]; omega)]
theorem run_mapM {α β : Type} (g : α -> Sem β) (h : α -> β) (w : World) : ∀ (l : List α), (∀ x ∈ l, (g x).run P w = .ok (h x) w) -> (l.mapM g).run P w = .ok (l.map h) w
 | [], _ => by simp
 | x :: l, hg => by
  rw [List.mapM_cons, Sem.run_bind, hg x (by simp), Result.andThen_ok, Sem.run_bind, run_mapM g h w l (fun y hy => hg y (by simp [hy])), Result.andThen_ok, Sem.run_pure, List.map_cons]
theorem run_mapM_array {α β : Type} (g : α -> Sem β) (h : α -> β) (w : World) (l : Array α) (hg : ∀ x ∈ l.toList, (g x).run P w = .ok (h x) w) : (l.mapM g).run P w = .ok (l.map h) w := by
 rw [Array.mapM_eq_mapM_toList, Sem.run_map, run_mapM g h w _ hg, Result.andThen_ok]
 congr 1
 apply Array.toList_inj.1
 simp
def blk (P : PX) (z : AV) (t : TypeId) : Bool := zok P z t && (match P.underlying t with | some (.struct fs) => fs.toList.all (fun f => (P.underlying f.type).isSome && tin P f.type) | some (.array _ e) => (P.underlying e).isSome && tin P e | _ => false)
theorem eBl_ok (hty : TyOk P) (hi : Inv P s) {N : Fr} {T : Tm} (ht : TR P s.K s.ρ N T a) {rec : Rec} {z : AV} {ps : List (Nat × O)} {t : TypeId} {qs : Array (Nat × Operand)} (ho : o.op = .build t qs) (hp : pom P ps qs.toList = true) (hz : blk P z t = true)
  (h : eBl z ps rec T wm s.n s.H Kt = some r) : OpW P o a s wm Kt r := by
 unfold blk at hz
 rw [Bool.and_eq_true] at hz
 obtain ⟨hz1, hz2⟩ := hz
 obtain ⟨i, v, c, e1, e2, e3, e4⟩ := zok_ok hz1
 unfold eBl at h
 cases z <;> first | (cases h; done) | skip
 rename_i u fs
 have hR := e4 s.K s.ρ
 have hlay : ∃ ts, lay P t = some t /\ comps P t = some ts /\ u = t /\ R P s.K s.ρ fs ts c := by
  cases hl : lay P t with
  | none => rw [hl] at hR; cases hR
  | some t' =>
   obtain ⟨rfl, ts, hts⟩ := lay_self hl
   rw [hl] at hR
   cases hR with
   | agg g1 g2 g3 =>
    cases g3
    exact ⟨_, rfl, g1, rfl, by simpa using g2⟩
 obtain ⟨ts, hl, hts, rfl, hf⟩ := hlay
 rw [hl] at e3
 have e3 : v = .agg c.toArray := e3
 subst e3
 have hsizes : ∀ d, P.underlying u = some d -> (∀ w, (zeroValue u).run P w = .ok (.agg c.toArray) w) := fun d _ w => run_zeroValue e1 e2 w
 split at hz2
 ·rename_i fields hu
  have hc : ts = fields.toList.map (fun f => lay P f.type) := by
   have : comps P u = some (fields.toList.map fun f => lay P f.type) := by rw [comps_eq (lay_tin hl), hu]
   rw [hts] at this
   exact Option.some.inj this
  have hplaces : (fields.mapM (m := Sem) (fun f => do pure (f.offset, <- sizeOf f.type))).run P s.w = .ok (fields.map fun f => (f.offset, P.cellsOf f.type)) s.w := by
   apply run_mapM_array
   intro f hf
   have hz3 := (List.all_eq_true.1 hz2) f hf
   rw [Bool.and_eq_true] at hz3
   obtain ⟨d, hd⟩ := Option.isSome_iff_exists.1 hz3.1
   rw [Sem.run_bind, run_sizeOf' hd, Result.andThen_ok, Sem.run_pure]
  have hpl : ∀ i l, ts[i]? = some l -> ((fields.map fun f => (f.offset, P.cellsOf f.type))[i]? : Option (Nat × Nat)) = some (szs P (ts.take i), szl P l) := by
   intro i l hi
   rw [hc] at hi ⊢
   rw [List.getElem?_map, Option.map_eq_some_iff] at hi
   obtain ⟨f, hf1, rfl⟩ := hi
   have hf2 : fields[i]? = some f := by simpa using hf1
   have hz3 := (List.all_eq_true.1 hz2) f (List.mem_of_getElem? hf1)
   rw [Bool.and_eq_true] at hz3
   obtain ⟨d, hd⟩ := Option.isSome_iff_exists.1 hz3.1
   have etn := hz3.2
   rw [Array.getElem?_map, hf2, szl_lay hty etn hd]
   simp [hty.off u fields i f (lay_tin hl) hu hf2]
  obtain ⟨fs', cells', q1, q2, q3⟩ := build_ok hty ht hpl hp hf h
  refine .pure hi (v := .agg cells'.toArray) ?_ (VR.of (l := some u) (by simpa using R.agg hts q2 (R.nil (K := s.K)))) q3
  have hq : (qs.map fun p => (p.1, a.eval p.2)).toList = qs.toList.map fun p => (p.1, a.eval p.2) := by simp
  unfold execOp
  simp only [ho, Sem.run_bind, Instr.build, run_zeroValue e1 e2, Result.andThen_ok, run_underlying hu, hplaces, Value.cells, hq, q1, Sem.run_pure]
 ·rename_i n el hu
  have hc : ts = List.replicate n (lay P el) := by
   have : comps P u = some (List.replicate n (lay P el)) := by rw [comps_eq (lay_tin hl), hu]
   rw [hts] at this
   exact Option.some.inj this
  rw [Bool.and_eq_true] at hz2
  obtain ⟨d, hd⟩ := Option.isSome_iff_exists.1 hz2.1
  have etn := hz2.2
  have hpl : ∀ i l, ts[i]? = some l -> (fun i => some (i * P.cellsOf el, P.cellsOf el)) i = some (szs P (ts.take i), szl P l) := by
   intro i l hi
   rw [hc] at hi ⊢
   rw [List.getElem?_replicate] at hi
   split at hi
   ·cases hi
    rw [List.take_replicate, Nat.min_eq_left (by omega), szs_replicate, szl_lay hty etn hd]
   ·cases hi
  obtain ⟨fs', cells', q1, q2, q3⟩ := build_ok hty ht hpl hp hf h
  refine .pure hi (v := .agg cells'.toArray) ?_ (VR.of (l := some u) (by simpa using R.agg hts q2 (R.nil (K := s.K)))) q3
  have hq : (qs.map fun p => (p.1, a.eval p.2)).toList = qs.toList.map fun p => (p.1, a.eval p.2) := by simp
  unfold execOp
  simp only [ho, Sem.run_bind, Instr.build, run_zeroValue e1 e2, Result.andThen_ok, run_underlying hu, run_sizeOf' hd, Value.cells, hq, q1, Sem.run_pure]
 ·cases hz2
def rwk (P : PX) (z : AV) (t : TypeId) : Bool := match P.underlying t with | some (.slice e) => zok P z e && ((P.underlying e).isSome && tin P e) && decide ((match P.info? e with | some i => i.bytes | none => 0) <= 65536) && decide (P.cellsOf e <= 1000) | _ => false
theorem rwk_ok (hty : TyOk P) {z : AV} {t : TypeId} (h : rwk P z t = true) : ∃ e i v c d, P.underlying t = some (.slice e) /\ P.info? e = some i /\ i.zero = some v /\ v.cells.toList = c /\ (∀ K ρ, R P K ρ [z] [lay P e] c) /\ P.underlying e = some d /\ i.bytes <= 65536 /\ P.cellsOf e <= 1000 /\
  c.length = P.cellsOf e /\ tin P e = true := by
 unfold rwk at h
 split at h
 ·rename_i e hu
  simp only [Bool.and_eq_true, decide_eq_true_eq] at h
  obtain ⟨⟨⟨h1, h2⟩, h3⟩, h4⟩ := h
  obtain ⟨i, v, c, e1, e2, e3, e4⟩ := zok_ok h1
  obtain ⟨d, hd⟩ := Option.isSome_iff_exists.1 h2.1
  have etn := h2.2
  have hc := pk_cells (e4 (fun _ => none) (fun _ => none))
  rw [e1] at h3
  have hl := (e4 (fun _ => none) (fun _ => none)).size hty
  simp only [szs, List.map_cons, List.map_nil, List.sum_cons, List.sum_nil, Nat.add_zero] at hl
  exact ⟨e, i, v, c, d, hu, e1, e2, by rw [e3]; exact hc, e4, hd, h3, h4, by rw [hl, szl_lay hty etn hd], etn⟩
 ·cases h
theorem eBs_ok (hty : TyOk P) (hi : Inv P s) (hw : wm <= s.n) {N : Fr} {T : Tm} (ht : TR P s.K s.ρ N T a) {rec : Rec} {z : AV} {m : Nat} {ps : List (Nat × O)} {t : TypeId} {qs : Array (Nat × Operand)} (ho : o.op = .buildSlice t m qs) (hp : pom P ps qs.toList = true) (hz : rwk P z t = true)
  (hm : m <= 1000) (h : eBs z m ps rec T wm s.n s.H Kt = some r) : OpW P o a s wm Kt r := by
 obtain ⟨el, i, v, c, d, hu, e1, e2, e3, e4, hd, e5, e6, e7, etn⟩ := rwk_ok hty hz
 unfold eBs at h
 rw [fill_eq] at h
 have hR := R_replicate (e4 s.K s.ρ) m
 have hpl : ∀ i l, (List.replicate m (lay P el))[i]? = some l -> (fun i => some (i * P.cellsOf el, P.cellsOf el)) i = some (szs P ((List.replicate m (lay P el)).take i), szl P l) := by
  intro i l hi
  rw [List.getElem?_replicate] at hi
  split at hi
  ·cases hi
   rw [List.take_replicate, Nat.min_eq_left (by omega), szs_replicate, szl_lay hty etn hd]
  ·cases hi
 obtain ⟨fs', cells', q1, q2, q3⟩ := build_ok hty ht hpl hp hR h
 have hlen : fs'.length = m := by have := q2.len; simpa using this
 have q2' : R P s.K s.ρ fs' (List.replicate fs'.length (lay P el)) cells' := by rw [hlen]; exact q2
 have hext := newRow_ok (wm := wm) hi hw q2' el
 have hsz := szl_lay hty etn hd
 have hcs := q2.size hty
 rw [szs_replicate, hsz] at hcs
 have hbig : ¬ m * P.cellsOf el > 2 ^ 24 := by
  have : m * P.cellsOf el <= 1000 * 1000 := Nat.mul_le_mul hm e6
  omega
 have hrow : ∀ (hz : m * P.cellsOf el ≠ 0), ((Array.range (m * P.cellsOf el)).map (fun i => v.cells[i % v.cells.size]!)) = (List.replicate m c).flatten.toArray := by
  intro hz
  apply Array.toList_inj.1
  have hcz : v.cells.size = P.cellsOf el := by rw [<- e7, <- e3]; simp
  have := zero_row v.cells m (by rw [hcz]; exact hz)
  rw [hcz] at this
  rw [hcz, this, e3]
 have hq : (qs.map fun p => (p.1, a.eval p.2)).toList = qs.toList.map fun p => (p.1, a.eval p.2) := by simp
 refine .value (v := .slice (some ⟨s.w.heap.size, 0, none⟩) m m) ?_ ?_ hext q3
 ·unfold execOp
  simp only [ho, Sem.run_bind, Instr.buildSlice, run_underlying hu, Result.andThen_ok, run_sizeOf' hd, hbig, if_false, Sem.run_ite]
  by_cases hz0 : m * P.cellsOf el = 0
  ·have hnil : (List.replicate m c).flatten = [] := by
    apply List.eq_nil_of_length_eq_zero
    simp [List.length_flatten, e7, hz0]
   rw [hnil] at q1
   have hr0 : ∀ z : Array Value, (Array.range 0).map (fun i => z[i % z.size]!) = #[] := by intro z; simp
   simp only [hz0, if_true, Sem.run_pure, Result.andThen_ok, hr0, hq]
   simp only [q1, Sem.run_bind, run_newRow, Result.andThen_ok, Sem.run_pure]
  ·simp only [hz0, if_false, Sem.run_bind, run_zeroValue e1 e2, Result.andThen_ok, Sem.run_pure, hq, hrow hz0]
   simp only [q1, Sem.run_bind, run_newRow, Result.andThen_ok, Sem.run_pure]
 ·have := R.sr (P := P) (K := s.K) (ρ := upd s.ρ s.n (s.w.heap.size, .row (lay P el) fs'.length cells'.length)) (b := s.n) (off := 0) (n := m) (cap := m) (op := false) (ccap := m) (upd_same _ _ _) (Nat.le_refl _) (by omega) (Nat.le_refl _) (fun _ => rfl) (by rw [hsz, hcs]; simp) .nil
  have := VR.of (l := none) this
  rw [lc_eq (e4 s.K s.ρ)]
  simpa [pk] using this
theorem eMs_ok (hty : TyOk P) (hi : Inv P s) (hw : wm <= s.n) {N : Fr} {T : Tm} (ht : TR P s.K s.ρ N T a) {rec : Rec} {z : AV} {x : O} {x' : Operand} {t : TypeId} (ho : o.op = .makeSlice t x' x') (hm : om x x' = true) (hz : rwk P z t = true)
  (h : eMs z x rec T wm s.n s.H Kt = some r) : OpW P o a s wm Kt r := by
 obtain ⟨el, i, v, c, d, hu, e1, e2, e3, e4, hd, e5, e6, e7, etn⟩ := rwk_ok hty hz
 have hv := om_ok hm ht
 unfold eMs at h
 generalize ev T x = av at h hv
 cases av <;> first | (cases h; done) | skip
 rename_i k n
 cases n <;> first | (cases h; done) | skip
 rename_i m
 obtain ⟨hb, hk⟩ := brec_some h
 have hb := Nat.le_of_ble_eq_true hb
 rw [fill_eq] at hk
 have hR := R_replicate (e4 s.K s.ρ) m
 have hlen : (List.replicate m z).length = m := by simp
 have q2' : R P s.K s.ρ (List.replicate m z) (List.replicate (List.replicate m z).length (lay P el)) (List.replicate m c).flatten := by rw [hlen]; exact hR
 have hext := newRow_ok (wm := wm) hi hw q2' el
 have hsz := szl_lay hty etn hd
 have hcs := hR.size hty
 rw [szs_replicate, hsz] at hcs
 have hrow : ∀ (hz : m * P.cellsOf el ≠ 0), ((Array.range (m * P.cellsOf el)).map (fun i => v.cells[i % v.cells.size]!)) = (List.replicate m c).flatten.toArray := by
  intro hz
  apply Array.toList_inj.1
  have hcz : v.cells.size = P.cellsOf el := by rw [<- e7, <- e3]; simp
  have := zero_row v.cells m (by rw [hcz]; exact hz)
  rw [hcz] at this
  rw [hcz, this, e3]
 refine .value (v := .slice (some ⟨s.w.heap.size, 0, none⟩) m m) ?_ ?_ hext hk
 ·have hvi := hv.int
  have hwr : IntKind.i64.wrap (Int.ofNat m) = (m : Int) := IntWalk.i64_in (m : Int) (by omega)
  have hbytes : ¬ ((i.bytes : Int) * (m : Int) > 2 ^ 48) := by
   have h1 : i.bytes * m <= 65536 * 1000000 := Nat.mul_le_mul e5 hb
   have h2 : ((i.bytes * m : Nat) : Int) <= 65536000000 := by omega
   rw [Int.natCast_mul] at h2
   omega
  have hroom : ∀ (k : Nat) (v : World), (askRoom k).run P v = .ok () v := by
   intro k v
   unfold askRoom
   split <;> rfl
  unfold execOp
  simp only [ho, Sem.run_bind, Instr.makeSlice, run_underlying hu, Result.andThen_ok, hvi, asInt, asIntOf, Sem.run_pure, typeInfo, run_program, e1, hwr]
  have hneg : ¬ (m : Int) < 0 := by omega
  have hself : ¬ (m : Int) > m := by omega
  have hno : (decide ((m : Int) < 0) || decide ((i.bytes : Int) * (m : Int) > 2 ^ 48) || decide ((m : Int) < 0) || decide ((m : Int) > m)) = false := by
   simp only [Bool.or_eq_false_iff, decide_eq_false_iff_not]
   exact ⟨⟨⟨hneg, hbytes⟩, hneg⟩, hself⟩
  have htn : ((m : Int)).toNat = m := rfl
  rw [if_neg (by rw [hno]; simp)]
  simp only [Sem.run_bind, hroom, Result.andThen_ok, run_sizeOf' hd, Sem.run_ite, htn]
  by_cases hz0 : m * P.cellsOf el = 0
  ·have hnil : (List.replicate m c).flatten = [] := by
    apply List.eq_nil_of_length_eq_zero
    simp [List.length_flatten, e7, hz0]
   have hr0 : ∀ z : Array Value, (Array.range 0).map (fun i => z[i % z.size]!) = #[] := by intro z; simp
   simp only [hz0, if_true, Sem.run_pure, Result.andThen_ok, hr0, Sem.run_bind, run_newRow, hnil]
  ·simp only [hz0, if_false, Sem.run_bind, run_zeroValue e1 e2, Result.andThen_ok, Sem.run_pure, hrow hz0, run_newRow]
 ·have := R.sr (P := P) (K := s.K) (ρ := upd s.ρ s.n (s.w.heap.size, .row (lay P el) (List.replicate m z).length (List.replicate m c).flatten.length)) (b := s.n) (off := 0) (n := m) (cap := m) (op := false) (ccap := m) (upd_same _ _ _) (Nat.le_refl _) (by simp) (Nat.le_refl _) (fun _ => rfl) (by rw [hsz, hcs]; simp) .nil
  have := VR.of (l := none) this
  rw [lc_eq (e4 s.K s.ρ)]
  simpa [pk] using this
theorem eMm_ok (hi : Inv P s) (hw : wm <= s.n) {T : Tm} {rec : Rec} {t : TypeId} (ho : o.op = .makeMap t none) (h : eMm rec T wm s.n s.H Kt = some r) : OpW P o a s wm Kt r := by
 have hext := Ext.alloc (wm := wm) hi hw (ab := .map []) (k := .map) (o := .map #[] 0) (by exact ⟨All2.nil, fun e he => by cases he⟩)
 refine .value (v := .map (some s.w.heap.size)) ?_ ?_ hext h
 ·simp only [execOp, ho, Sem.run_bind, Instr.makeMap, Option.map_none, newObj]
  rfl
 ·exact VR.of (l := none) (R.mpm (upd_same _ _ _) .nil)
end
end Go.Proofs.YtgaghaggiblabaaGreatDoor.Ev
namespace Go.Proofs.YtgaghaggiblabaaGreatDoor.Ev
open Go.RowKit
section
variable {P : PX} {o : Oper} {a : Act} {s : St} {wm : Nat} {Kt : Kv} {r : AV × Nat × Hp}
def CallPost (P : PX) (wm : Nat) (s : St) (r : AV × Nat × Hp) : Ending -> World -> Prop := fun e w' => ∃ v t, e = .returned v /\ w' = t.w /\ VR P t.K t.ρ r.1 v /\ Ext P wm s t /\ t.n = r.2.1 /\ t.H = r.2.2
def RecOk (P : PX) (rec : Rec) : Prop := ∀ (f : Nat) (as : List AV) (wm : Nat) (s : St) (r : AV × Nat × Hp) (vs : List Value), rec f as wm s.n s.H = some r -> Inv P s -> wm <= s.n -> All2 (VR P s.K s.ρ) as vs -> Calls P f vs.toArray s.w (CallPost P wm s r)
structure FnOk (P : PX) (f : Nat) : Prop where
 fn : ∃ fn, P.funcs[f]? = some fn /\ fn.body.isSome = true /\ (fn.name == "runtime.NumGoroutine") = false
theorem run_callFunc {f : Nat} (h : FnOk P f) (args : Array Value) (w : World) : (callFunc f args).run P w = .ok (.enter f args) w := by
 obtain ⟨fn, h1, h2, h3⟩ := h.fn
 have h4 : fn.name ≠ "runtime.NumGoroutine" := by simpa using h3
 have h5 : fn.body ≠ none := by intro e; rw [e] at h2; cases h2
 simp [callFunc, run_program, h1, h4, h5]
theorem call_some {rec : Rec} {f : Nat} {as : List AV} {wm n : Nat} {H : Hp} {K : Kv} (h : call rec f as wm n H K = some r) : ∃ q, rec f as wm n H = some q /\ K q.1 q.2.1 q.2.2 = some r := by
 unfold call at h
 split at h
 ·exact ⟨_, by assumption, h⟩
 ·cases h
theorem callW {rec : Rec} (hrec : RecOk P rec) (hi : Inv P s) (hw : wm <= s.n) {f : Nat} {as : List AV} {vs : List Value} (hv : All2 (VR P s.K s.ρ) as vs) (hr : (execOp a.eval o).run P s.w = .ok (.enter f vs.toArray) s.w)
  (h : call rec f as wm s.n s.H Kt = some r) : OpW P o a s wm Kt r := by
 obtain ⟨q, h1, h2⟩ := call_some h
 intro ro Q next hn
 refine wpIn_of hr (fun d e => by cases e) ⟨fun h => (by cases h), callsIn_fw ((hrec f as wm s q vs h1 hi hw hv).mono ?_)⟩
 rintro e w' ⟨v, t, rfl, rfl, hV, hE, e1, e2⟩
 exact hn v q.1 t hV hE (by rw [e1, e2]; exact h2)
theorem eCa_ok {rec : Rec} (hrec : RecOk P rec) (hi : Inv P s) (hw : wm <= s.n) {N : Fr} {T : Tm} (ht : TR P s.K s.ρ N T a) {f : Nat} {as : List O} {ys : Array Operand} {ts : Array TypeId} (ho : o.op = .call { callee := .value (.func f), args := ys, argTypes := ts }) (hm : oms as ys.toList = true)
  (hf : FnOk P f) (h : eCa f as rec T wm s.n s.H Kt = some r) : OpW P o a s wm Kt r := by
 refine callW hrec hi hw (oms_ok ht hm) ?_ h
 have e : (ys.toList.map a.eval).toArray = ys.map a.eval := Array.toList_inj.1 (by simp)
 rw [e]
 unfold execOp
 simp only [ho, resolve, Sem.run_bind, Act.eval, Deferred.ofValue, Sem.run_pure, Result.andThen_ok, invoke, Array.empty_append, Array.append_empty]
 exact run_callFunc hf _ _
theorem All2.app {α β : Type} {p : α -> β -> Prop} {as : List α} {bs : List β} (h : All2 p as bs) {cs : List α} {ds : List β} (h' : All2 p cs ds) : All2 p (as ++ cs) (bs ++ ds) := by
 induction h with
 | nil => exact h'
 | cons h1 _ ih => exact .cons h1 ih
theorem R.all {K : Kap} {ρ : Rho} {as : List AV} {vs : List Value} (h : R P K ρ as (List.replicate as.length none) vs) : All2 (VR P K ρ) as vs := by
 induction as generalizing vs with
 | nil => cases h; exact .nil
 | cons x as ih =>
  simp only [List.length_cons, List.replicate_succ] at h
  obtain ⟨c, d, rfl, h1, h2⟩ := h.uncons
  obtain ⟨v, rfl⟩ := h1.single
  exact .cons (VR.of (l := none) h1) (ih h2)
theorem eCd_ok {rec : Rec} (hrec : RecOk P rec) (hi : Inv P s) (hw : wm <= s.n) {N : Fr} {T : Tm} (ht : TR P s.K s.ρ N T a) {x : O} {as : List O} {y : Operand} {ys : Array Operand} {ts : Array TypeId} (ho : o.op = .call { callee := .value y, args := ys, argTypes := ts }) (hx : om x y = true) (hm : oms as ys.toList = true)
  (hf : ∀ f fi ca, ev T x = .fn f fi ca -> FnOk P f) (h : eCd x as rec T wm s.n s.H Kt = some r) : OpW P o a s wm Kt r := by
 have hv := om_ok hx ht
 unfold eCd at h
 generalize ev T x = av at h hv hf
 cases av <;> first | (cases h; done) | skip
 rename_i f fi ca
 have hfn := hf f fi ca rfl
 obtain ⟨l, c, hR, he⟩ := hv.known (by simp) (by simp)
 obtain ⟨vf, vc, hv', h1, h2⟩ : ∃ vf vc, a.eval y = .func (.func f) (List.toArray vf) (List.toArray vc) /\ All2 (VR P s.K s.ρ) fi vf /\ All2 (VR P s.K s.ρ) ca vc := by
  cases hR with
  | fn g1 g2 g3 =>
   cases g3
   exact ⟨_, _, he, g1.all, g2.all⟩
 replace h : call rec f (app fi (app (evs T as) ca)) wm s.n s.H Kt = some r := h
 rw [app_eq, app_eq] at h
 refine callW hrec hi hw (h1.app ((oms_ok ht hm).app h2)) ?_ h
 have e : (vf ++ (ys.toList.map a.eval ++ vc)).toArray = vf.toArray ++ ys.map a.eval ++ vc.toArray := Array.toList_inj.1 (by simp)
 rw [e]
 unfold execOp
 simp only [ho, resolve, Sem.run_bind, hv', Deferred.ofValue, Sem.run_pure, Result.andThen_ok, invoke]
 exact run_callFunc hfn _ _
theorem wp_loop_count {F : Fence} {nf : Nat} {c : Code} {Q : Exit -> Act -> World -> Prop} {a : Act} {w : World} (I : Nat -> Act -> World -> Prop) (n : Nat) (h₀ : I n a w)
  (round : ∀ n a w, I n a w -> c.wpIn F nf P (Exit.then (fun a' w' => ∃ m, m < n /\ I m a' w') Q) a w) : (Code.loop c).wpIn F nf P Q a w := by
 intro b k cs hro hb hr
 have key : ∀ n a w, I n a w -> ∃ e a' w', Q e a' w' /\ ArrivesIn (Machine.fenced P F) P (lone (b.atR a (.code c :: .inLoop c :: k)) cs w) b k cs e a' w' := by
  intro n
  induction n using Nat.strongRecOn with
  | _ n ih =>
   intro a w hI
   obtain ⟨e, a₁, w₁, hq, harr⟩ := round n a w hI b (.inLoop c :: k) cs hro hb hr
   cases e with
   | normal =>
    obtain ⟨m, hlt, hI₁⟩ := hq
    obtain ⟨e₂, a₂, w₂, hq₂, harr₂⟩ := ih m hlt a₁ w₁ hI₁
    exact ⟨e₂, a₂, w₂, hq₂, .of_steps (StepsIn.trans harr (.one (fenced_calm hb hr rfl) stepR_inLoop)) harr₂⟩
   | exit id => exact ⟨_, a₁, w₁, hq, .pass (x := .inLoop c) rfl (fun _ _ => .inl (by simp)) harr⟩
   | goto l => exact ⟨_, a₁, w₁, hq, .pass (x := .inLoop c) rfl (fun _ _ => .inl (by simp)) harr⟩
   | ret => exact ⟨_, a₁, w₁, hq, .pass (x := .inLoop c) rfl (fun _ _ => .inl (by simp)) harr⟩
   | panic ch => exact ⟨_, a₁, w₁, hq, .pass (x := .inLoop c) rfl (fun _ _ => .inl (by simp)) harr⟩
   | outgrown => exact ⟨_, a₁, w₁, hq, .pass (x := .inLoop c) rfl (fun _ _ => .inl (by simp)) harr⟩
 obtain ⟨e, a', w', hq, harr⟩ := key n a w h₀
 exact ⟨e, a', w', hq, .of_steps (.one (fenced_calm hb hr rfl) stepR_loop) harr⟩
end
end Go.Proofs.YtgaghaggiblabaaGreatDoor.Ev
namespace Go.Proofs.YtgaghaggiblabaaGreatDoor.Ev
open Go.RowKit
section
variable {P : PX}
theorem lk_tset (i d : Nat) (v : AV) : ∀ T : Tm, lk i (tset d v T) = if d = i then v else lk i T := by
 intro T
 induction T with
 | nil => show lk i [(d, v)] = _; rw [lk_cons]
 | cons p T ih =>
  obtain ⟨e, u⟩ := p
  show lk i (Bool.rec ((e, u) :: tset d v T) ((d, v) :: T) (Nat.beq e d)) = _
  rw [brec_beq]
  split
  ·rename_i h
   subst h
   rw [lk_cons, lk_cons]
   split <;> rfl
  ·rename_i h
   rw [lk_cons, ih, lk_cons]
   by_cases h1 : e = i
   ·rw [if_pos h1, if_neg (fun h2 => h (h1.trans h2.symm)), if_pos h1]
   ·rw [if_neg h1, if_neg h1]
theorem lk_outsT (i : Nat) (S T : Tm) : ∀ outs : List Nat, lk i (outsT outs S T) = if i ∈ outs then lk i S else lk i T := by
 intro outs
 induction outs with
 | nil => simp; rfl
 | cons d outs ih =>
  show lk i (tset d (lk d S) (outsT outs S T)) = _
  rw [lk_tset, ih]
  by_cases h : d = i
  ·subst h; simp
  ·simp [h, Ne.symm h]
def Only (V : Nat -> Prop) (T : Tm) : Prop := ∀ i, ¬ V i -> lk i T = .top
def RegW (P : PX) (N : Fr) (V : Nat -> Prop) (ev : Nat -> Tm -> Nat -> Hp -> (Tm -> Nat -> Hp -> Out) -> Out) (outs : List Nat) (c : Code) : Prop := ∀ (ro : Option Nat) (wm : Nat) (s : St) (T : Tm) (a : Act) (k : Tm -> Nat -> Hp -> Out) (r : AV × Nat × Hp) (Q : Exit -> Act -> World -> Prop),
 Inv P s -> wm <= s.n -> TR P s.K s.ρ N T a -> Only V T -> ev wm T s.n s.H (fun S n H => k (outsT outs S T) n H) = some r ->
 (∀ T' a' t, TR P t.K t.ρ N T' a' -> Only V T' -> Ext P wm s t -> k T' t.n t.H = some r -> Q .normal a' t.w) -> c.wpIn (Fw ro) 0 P Q a s.w
inductive MC (mr : List G -> List Nat -> Code -> Prop) (md : List D -> List Nat -> Code -> Prop) : C -> Code -> Prop
 | skip : MC mr md .skip .skip
 | rg {is outs c} : mr is outs c -> MC mr md (.rg is outs) c
 | dr {is outs c} : md is outs c -> MC mr md (.dr is outs) c
 | seq {a b x y} : MC mr md a x -> MC mr md b y -> MC mr md (.seq a b) (.seq x y)
 | cond {c o a b x y} : om c o = true -> MC mr md a x -> MC mr md b y -> MC mr md (.cond c a b) (.cond o x y)
 | block {id b y} : MC mr md b y -> MC mr md (.block id b) (.block id y)
 | loop {b y} : MC mr md b y -> MC mr md (.loop b) (.loop y)
 | exit {id} : MC mr md (.exit id) (.exit id)
 | ret : MC mr md .ret .ret
theorem code_ok {mr : List G -> List Nat -> Code -> Prop} {md : List D -> List Nat -> Code -> Prop} {N : Fr} {V : Nat -> Prop} {rec : Rec} (hreg : ∀ is outs c, mr is outs c -> RegW P N V (fun wm => gs rec wm is) outs c)
  (hdr : ∀ is outs c, md is outs c -> RegW P N V (fun wm => ds rec wm is []) outs c) {c : C} {cd : Code} (hm : MC mr md c cd) :
  ∀ {ro : Option Nat} {wm : Nat} {s : St} {T : Tm} {a : Act} {kn : Tm -> Nat -> Hp -> Out} {kx : Nat -> Tm -> Nat -> Hp -> Out} {kr : Tm -> Nat -> Hp -> Out} {r : AV × Nat × Hp} {Q : Exit -> Act -> World -> Prop},
   Inv P s -> wm <= s.n -> TR P s.K s.ρ N T a -> Only V T -> code rec wm c T s.n s.H kn kx kr = some r ->
   (∀ T' a' t, TR P t.K t.ρ N T' a' -> Only V T' -> Ext P wm s t -> kn T' t.n t.H = some r -> Q .normal a' t.w) ->
   (∀ id T' a' t, TR P t.K t.ρ N T' a' -> Only V T' -> Ext P wm s t -> kx id T' t.n t.H = some r -> Q (.exit id) a' t.w) ->
   (∀ T' a' t, TR P t.K t.ρ N T' a' -> Only V T' -> Ext P wm s t -> kr T' t.n t.H = some r -> Q .ret a' t.w) -> cd.wpIn (Fw ro) 0 P Q a s.w := by
 induction hm with
 | skip =>
  intro ro wm s T a kn kx kr r Q hi hw ht ho hk hn hx hr
  exact wpIn_skip (hn T a s ht ho (.refl hi) hk)
 | rg h =>
  intro ro wm s T a kn kx kr r Q hi hw ht ho hk hn hx hr
  exact hreg _ _ _ h ro wm s T a kn r Q hi hw ht ho hk hn
 | dr h =>
  intro ro wm s T a kn kx kr r Q hi hw ht ho hk hn hx hr
  exact hdr _ _ _ h ro wm s T a kn r Q hi hw ht ho hk hn
 | seq h1 h2 ih1 ih2 =>
  rename_i ca cb x y
  intro ro wm s T a kn kx kr r Q hi hw ht ho hk hn hx hr
  replace hk : code rec wm ca T s.n s.H (fun T n H => code rec wm cb T n H kn kx kr) kx kr = some r := hk
  refine wpIn_seq (ih1 hi hw ht ho hk ?_ ?_ ?_)
  ·intro T' a' t q1 q2 q3 q4
   exact ih2 q3.inv (Nat.le_trans hw q3.nle) q1 q2 q4 (fun T' a' t p1 p2 p3 p4 => hn T' a' t p1 p2 (q3.trans p3) p4) (fun id T' a' t p1 p2 p3 p4 => hx id T' a' t p1 p2 (q3.trans p3) p4)
    (fun T' a' t p1 p2 p3 p4 => hr T' a' t p1 p2 (q3.trans p3) p4)
  ·exact hx
  ·exact hr
 | cond hc h1 h2 ih1 ih2 =>
  rename_i c o ca cb x y
  intro ro wm s T a kn kx kr r Q hi hw ht ho hk hn hx hr
  replace hk : (match ev T c with | .bool c => Bool.rec (code rec wm cb T s.n s.H kn kx kr) (code rec wm ca T s.n s.H kn kx kr) c | _ => none) = some r := hk
  have hv := om_ok hc ht
  split at hk
  ·rename_i b hb
   rw [hb] at hv
   refine wpIn_cond hv.bool ?_
   cases b with
   | true => exact ih1 hi hw ht ho hk hn hx hr
   | false => exact ih2 hi hw ht ho hk hn hx hr
  ·cases hk
 | block h ih =>
  rename_i id b y
  intro ro wm s T a kn kx kr r Q hi hw ht ho hk hn hx hr
  replace hk : code rec wm b T s.n s.H kn (fun j T n H => Bool.rec (kx j T n H) (kn T n H) (Nat.beq j id)) kr = some r := hk
  refine wpIn_block (ih hi hw ht ho hk hn ?_ hr)
  intro j T' a' t q1 q2 q3 q4
  rw [brec_beq] at q4
  show (if j = id then Q .normal a' t.w else Q (.exit j) a' t.w)
  split at q4
  ·rename_i e
   rw [if_pos e]
   exact hn T' a' t q1 q2 q3 q4
  ·rename_i e
   rw [if_neg e]
   exact hx j T' a' t q1 q2 q3 q4
 | loop h ih =>
  rename_i b y
  intro ro wm s T a kn kx kr r Q hi hw ht ho hk hn hx hr
  replace hk : lp (code rec wm b) kx kr 1000000 T s.n s.H = some r := hk
  generalize 1000000 = m at hk
  refine wp_loop_count (fun m a w => ∃ T' t, w = t.w /\ TR P t.K t.ρ N T' a /\ Only V T' /\ Ext P wm s t /\ lp (code rec wm b) kx kr m T' t.n t.H = some r) m ⟨T, s, rfl, ht, ho, .refl hi, hk⟩ ?_
  rintro m a w ⟨T', t, rfl, q1, q2, q3, q4⟩
  cases m with
  | zero => cases q4
  | succ m =>
   replace q4 : code rec wm b T' t.n t.H (lp (code rec wm b) kx kr m) kx kr = some r := q4
   refine ih q3.inv (Nat.le_trans hw q3.nle) q1 q2 q4 ?_ ?_ ?_
   ·intro T2 a2 t2 p1 p2 p3 p4
    exact ⟨m, Nat.lt_succ_self _, T2, t2, rfl, p1, p2, q3.trans p3, p4⟩
   ·intro id T2 a2 t2 p1 p2 p3 p4
    exact hx id T2 a2 t2 p1 p2 (q3.trans p3) p4
   ·intro T2 a2 t2 p1 p2 p3 p4
    exact hr T2 a2 t2 p1 p2 (q3.trans p3) p4
 | exit =>
  rename_i id
  intro ro wm s T a kn kx kr r Q hi hw ht ho hk hn hx hr
  exact wpIn_exit (hx id T a s ht ho (.refl hi) hk)
 | ret =>
  intro ro wm s T a kn kx kr r Q hi hw ht ho hk hn hx hr
  exact wpIn_ret (hr T a s ht ho (.refl hi) hk)
end
end Go.Proofs.YtgaghaggiblabaaGreatDoor.Ev
namespace Go.Proofs.YtgaghaggiblabaaGreatDoor.Ev
open Go.RowKit
section
variable {P : PX}
structure FzK (P : PX) (K K' : Kap) (ρ : Rho) (n0 : Nat) (H : Hp) : Prop where
 le : Kle K K'
 live : ∀ b els op x, n0 <= b -> hget b H = some (.row els op) -> ρ b = some x -> ∃ c l arr cs rest, x = (c, .row l els.length arr.size) /\ K' c = some arr /\ arr.toList = cs ++ rest /\ R P K ρ els (List.replicate els.length l) cs
def rhz (n0 : Nat) (s : Bool) (ρ : Rho) : Rho := fun b => if s = false /\ b < n0 then ρ b else none
theorem rhz_ok {n0 b : Nat} {s : Bool} {ρ : Rho} {x : Nat × BL} (h : (Bool.rec (Nat.ble n0 b) true s : Bool) = false) (hr : ρ b = some x) : rhz n0 s ρ b = some x := by
 cases s
 ·have h1 : ¬ n0 <= b := by
   intro e
   rw [show Nat.ble n0 b = true from Nat.ble_eq ▸ e] at h
   cases h
  simp [rhz, hr, Nat.lt_of_not_le h1]
 ·cases h
variable {α : Type}
def FzR (P : PX) (K K' : Kap) (ρ ρ' : Rho) (rec : AV -> (AV -> Option α) -> Option α) : Prop := ∀ (a : AV) (k : AV -> Option α) (r : α) (l : Lay) (vs : List Value), R P K ρ [a] [l] vs -> rec a k = some r -> ∃ a', k a' = some r /\ R P K' ρ' [a'] [l] vs
theorem fzl_ok {K K' : Kap} {ρ ρ' : Rho} {rec : AV -> (AV -> Option α) -> Option α} (hrec : FzR P K K' ρ ρ' rec) : ∀ {as : List AV} {ls : List Lay} {vs : List Value} {k : List AV -> Option α} {r : α},
  R P K ρ as ls vs -> fzl rec as k = some r -> ∃ as', k as' = some r /\ as'.length = as.length /\ R P K' ρ' as' ls vs := by
 intro as
 induction as with
 | nil =>
  intro ls vs k r hR h
  cases hR
  exact ⟨[], h, rfl, .nil⟩
 | cons a as ih =>
  intro ls vs k r hR h
  cases ls with
  | nil => have := hR.len; simp at this
  | cons l ls =>
   obtain ⟨c, d, rfl, h1, h2⟩ := hR.uncons
   obtain ⟨a', h3, h4⟩ := hrec a _ r l c h1 h
   obtain ⟨as', h5, h6, h7⟩ := ih h2 h3
   exact ⟨a' :: as', h5, by simp [h6], h4.cons h7⟩
theorem fzr_ok (hty : TyOk P) {K K' : Kap} {ρ : Rho} {n0 : Nat} {H : Hp} (hf : FzK P K K' ρ n0 H) {rec : AV -> (AV -> Option α) -> Option α} (hrec : FzR P K K' ρ (fun _ => none) rec) {b off n cap ccap m tot c : Nat} {op : Bool} {l : Lay} {ab : AB}
  (hn0 : n0 <= b) (hb : hget b H = some ab) (h1 : ρ b = some (c, .row l m tot)) (h2 : n <= cap) (h3 : off + cap <= m) (h4 : cap <= ccap) (h5 : op = false -> ccap = cap) {k : AV -> Option α} {r : α} (h : fzr rec off n cap op ab k = some r) (ρ' : Rho) :
  ∃ a', k a' = some r /\ R P K' ρ' [a'] [none] [.slice (some ⟨c, off * szl P l, none⟩) n ccap] := by
 cases ab <;> first | (cases h; done) | skip
 rename_i e q
 replace h : fzl rec (take (drop e off) n) (fun r => k (.sv r (and' (Nat.beq n cap) (not' op)))) = some r := h
 rw [take_eq, drop_eq] at h
 obtain ⟨c', l', arr, cs, rest, e1, e2, e3, e4⟩ := hf.live b e q _ hn0 hb h1
 cases e1
 obtain ⟨q1, q2⟩ := e4.sub hty (i := off) (j := off + n) (by omega) (by omega)
 have ed : (e.take (off + n)).drop off = (e.drop off).take n := by rw [List.drop_take]; congr 1; omega
 rw [ed] at q1
 have el : ((e.drop off).take n).length = n := by simp; omega
 have hcl : (off + n - off) = n := by omega
 rw [hcl] at q1 q2
 obtain ⟨as', g1, g2, g3⟩ := fzl_ok hrec q1 h
 rw [el] at g2 g3
 refine ⟨_, g1, ?_⟩
 have hl : ((cs.drop (off * szl P l)).take (n * szl P l)).length = n * szl P l := by simp; omega
 have hx : Fixed K' c (off * szl P l) ((cs.drop (off * szl P l)).take (n * szl P l)) := by
  refine ⟨arr, e2, ?_⟩
  rw [hl, e3, List.drop_append_of_le_length (by omega), List.take_append_of_le_length (by simp; omega)]
 have hs := R.sv (ρ := ρ') (full := and' (Nat.beq n cap) (not' op)) (cap := ccap) hx (by rw [g2]; exact g3) (by omega) (by
  intro hfull
  obtain ⟨f1, f2⟩ := and3 hfull
  rw [not'_eq] at f2
  rw [h5 (by simpa using f2), g2]
  exact (beq_true.1 f1).symm) .nil
 rw [g2] at hs
 exact hs
theorem fz_ok (hty : TyOk P) {K K' : Kap} {ρ : Rho} {n0 : Nat} {H : Hp} (hf : FzK P K K' ρ n0 H) : ∀ (fuel : Nat) (s : Bool), FzR (α := α) P K K' ρ (rhz n0 s ρ) (fz n0 H fuel s) := by
 intro fuel
 induction fuel with
 | zero => intro s a k r l vs _ h; cases h
 | succ fuel ih =>
  intro s a k r l vs hR h
  cases hR with
  | int h1 => cases h1; exact ⟨_, h, .int .nil⟩
  | bool h1 => cases h1; exact ⟨_, h, .bool .nil⟩
  | str h1 => cases h1; exact ⟨_, h, .str .nil⟩
  | nilp h1 => cases h1; exact ⟨_, h, .nilp .nil⟩
  | sn h1 => cases h1; exact ⟨_, h, .sn .nil⟩
  | se h1 => cases h1; exact ⟨_, h, .se .nil⟩
  | nilf h1 => cases h1; exact ⟨_, h, .nilf .nil⟩
  | nilm h1 => cases h1; exact ⟨_, h, .nilm .nil⟩
  | ob h1 h2 => cases h2; exact ⟨_, h, .ob (h1.mono hf.le (fun _ _ e => e)) .nil⟩
  | cn h1 => cases h1; exact ⟨_, h, .cn .nil⟩
  | pv h1 h2 h3 => cases h3; exact ⟨_, h, .pv (h1.mono hf.le) (h2.mono hf.le (fun _ _ e => e)) .nil⟩
  | sv h1 h2 h3 h4 h5 => cases h5; exact ⟨_, h, .sv (h1.mono hf.le) (h2.mono hf.le (fun _ _ e => e)) h3 h4 .nil⟩
  | ptr h1 h2 h3 h4 =>
   cases h4
   obtain ⟨g1, g2⟩ := brec_none h
   exact ⟨_, g2, .ptr (rhz_ok g1 h1) h2 h3 .nil⟩
  | mpm h1 h4 =>
   cases h4
   obtain ⟨g1, g2⟩ := brec_none h
   exact ⟨_, g2, .mpm (rhz_ok g1 h1) .nil⟩
  | mpi h1 h4 =>
   cases h4
   obtain ⟨g1, g2⟩ := brec_none h
   exact ⟨_, g2, .mpi (rhz_ok g1 h1) .nil⟩
  | agg h1 h2 h3 =>
   rename_i t fs ts c vs
   cases h3
   obtain ⟨as', g1, g2, g3⟩ := fzl_ok (ih s) h2 h
   refine ⟨_, g1, ?_⟩
   simpa using R.agg h1 g3 .nil
  | fn h1 h2 h3 =>
   cases h3
   obtain ⟨a1, g1, g2, g3⟩ := fzl_ok (ih s) h1 h
   obtain ⟨a2, g4, g5, g6⟩ := fzl_ok (ih s) h2 g1
   rw [<- g2] at g3
   rw [<- g5] at g6
   exact ⟨_, g4, .fn g3 g6 .nil⟩
  | sr h1 h2 h3 h4 h5 h6 h7 =>
   rename_i b off n cap op c l m tot ccap vs
   cases h7
   replace h : (Bool.rec (Bool.rec (k (.sr b off n cap op (lcode l))) none s) (hk b H fun ab => fzr (fz n0 H fuel true) off n cap op ab k) (Nat.ble n0 b) : Option α) = some r := h
   rw [brec_ble] at h
   split at h
   ·rename_i hn0
    obtain ⟨ab, hb, h⟩ := hk_some h
    have hnone : rhz n0 true ρ = fun _ => none := by funext b; simp [rhz]
    have ih' := ih true
    rw [hnone] at ih'
    exact fzr_ok hty hf ih' hn0 hb h1 h2 h3 h4 h5 h _
   ·rename_i hn0
    cases s with
    | true => cases h
    | false => exact ⟨_, h, .sr (by simp [rhz, Nat.lt_of_not_le hn0, h1]) h2 h3 h4 h5 h6 .nil⟩
def FzV (P : PX) (K K' : Kap) (ρ ρ' : Rho) (rec : AV -> (AV -> Option α) -> Option α) : Prop := ∀ (a : AV) (k : AV -> Option α) (r : α) (v : Value), V1 P K ρ a v -> rec a k = some r -> ∃ a', k a' = some r /\ V1 P K' ρ' a' v
theorem fz_V1 (hty : TyOk P) {K K' : Kap} {ρ : Rho} {n0 : Nat} {H : Hp} (hf : FzK P K K' ρ n0 H) (fuel : Nat) (s : Bool) : FzV (α := α) P K K' ρ (rhz n0 s ρ) (fz n0 H fuel s) := by
 rintro a k r v (rfl | ⟨l, c, hR, rfl⟩) h
 ·cases fuel with
  | zero => cases h
  | succ fuel => exact ⟨.top, h, .inl rfl⟩
 ·obtain ⟨a', h1, h2⟩ := fz_ok hty hf fuel s a k r l c hR h
  exact ⟨a', h1, .inr ⟨l, c, h2, rfl⟩⟩
theorem fzl_V1 {K K' : Kap} {ρ ρ' : Rho} {rec : AV -> (AV -> Option α) -> Option α} (hrec : FzV P K K' ρ ρ' rec) : ∀ {as : List AV} {vs : List Value} {k : List AV -> Option α} {r : α},
  All2 (V1 P K ρ) as vs -> fzl rec as k = some r -> ∃ as', k as' = some r /\ All2 (V1 P K' ρ') as' vs := by
 intro as
 induction as with
 | nil => intro vs k r hR h; cases hR; exact ⟨[], h, .nil⟩
 | cons a as ih =>
  intro vs k r hR h
  cases hR with
  | cons h1 h2 =>
   obtain ⟨a', h3, h4⟩ := hrec a _ r _ h1 h
   obtain ⟨as', h5, h7⟩ := ih h2 h3
   exact ⟨a' :: as', h5, .cons h4 h7⟩
theorem fz_VR (hty : TyOk P) {K K' : Kap} {ρ : Rho} {n0 : Nat} {H : Hp} (hf : FzK P K K' ρ n0 H) {fuel : Nat} {s : Bool} {a : AV} {k : AV -> Option α} {r : α} {v : Value} (hv : VR P K ρ a v) (h : fz n0 H fuel s a k = some r) :
  ∃ a', k a' = some r /\ VR P K' (rhz n0 s ρ) a' v := by
 rcases hv with hv | ⟨l, vs, rfl, rfl, hv⟩
 ·obtain ⟨a', h1, h2⟩ := fz_V1 hty hf fuel s a k r v hv h
  exact ⟨a', h1, .inl h2⟩
 ·cases fuel with
  | zero => cases h
  | succ fuel =>
   obtain ⟨as', h1, h2⟩ := fzl_V1 (fz_V1 hty hf fuel s) hv h
   exact ⟨_, h1, .inr ⟨as', vs, rfl, rfl, h2⟩⟩
theorem R.both {K1 K2 : Kap} {ρ1 ρ2 : Rho} (hr : Rle ρ1 ρ2) {as : List AV} {ls : List Lay} {vs : List Value} (h : R P K1 ρ1 as ls vs) : ∀ {ws : List Value}, R P K2 ρ2 as ls ws -> R P K2 ρ1 as ls ws := by
 induction h with
 | nil => intro ws h'; cases h'; exact .nil
 | int _ ih => intro ws h'; cases h'; exact .int (ih hr ‹_›)
 | bool _ ih => intro ws h'; cases h'; exact .bool (ih hr ‹_›)
 | str _ ih =>
  intro ws h'
  generalize hq : strOf _ = q at h'
  cases h' with
  | str g1 => exact .str (ih hr g1)
 | nilp _ ih => intro ws h'; cases h'; exact .nilp (ih hr ‹_›)
 | sn _ ih => intro ws h'; cases h'; exact .sn (ih hr ‹_›)
 | se _ ih => intro ws h'; cases h'; exact .se (ih hr ‹_›)
 | nilf _ ih => intro ws h'; cases h'; exact .nilf (ih hr ‹_›)
 | nilm _ ih => intro ws h'; cases h'; exact .nilm (ih hr ‹_›)
 | ob _ _ _ ih =>
  intro ws h'
  generalize hq : lcode _ = q at h'
  cases h' with
  | ob g1 g2 => exact .ob g1 (ih hr g2)
 | cn _ ih => intro ws h'; cases h'; exact .cn (ih hr ‹_›)
 | ptr h1 h2 h3 _ ih =>
  intro ws h'
  generalize hq : lcode _ = q at h'
  cases h' with
  | ptr g1 g2 g3 g4 =>
   have hq := lcode_inj hq
   subst hq
   rw [hr _ _ h1] at g1
   exact .ptr (h1.trans g1) g2 g3 (ih hr g4)
 | pv _ _ _ _ ih => intro ws h'; cases h' with | pv g1 g2 g3 => exact .pv g1 g2 (ih hr g3)
 | sv _ _ _ _ _ _ ih => intro ws h'; cases h' with | sv g1 g2 g3 g4 g5 => exact .sv g1 g2 g3 g4 (ih hr g5)
 | sr h1 _ _ _ _ _ _ ih =>
  intro ws h'
  generalize hq : lcode _ = q at h'
  cases h' with
  | sr g1 g2 g3 g4 g5 g6 g7 =>
   have hq := lcode_inj hq
   subst hq
   rw [hr _ _ h1] at g1
   exact .sr (h1.trans g1) g2 g3 g4 g5 g6 (ih hr g7)
 | agg h1 _ _ ih1 ih2 =>
  intro ws h'
  cases h' with
  | agg g1 g2 g3 =>
   rw [h1] at g1
   cases g1
   exact .agg h1 (ih1 hr g2) (ih2 hr g3)
 | fn _ _ _ ih1 ih2 ih3 => intro ws h'; cases h' with | fn g1 g2 g3 => exact .fn (ih1 hr g1) (ih2 hr g2) (ih3 hr g3)
 | mpm h1 _ ih => intro ws h'; cases h' with | mpm g1 g2 => exact .mpm (by rw [hr _ _ h1] at g1; rw [h1, g1]) (ih hr g2)
                                             | mpi g1 g2 => rw [hr _ _ h1] at g1; cases g1
 | mpi h1 _ ih => intro ws h'; cases h' with | mpi g1 g2 => exact .mpi (by rw [hr _ _ h1] at g1; rw [h1, g1]) (ih hr g2)
                                             | mpm g1 g2 => rw [hr _ _ h1] at g1; cases g1
noncomputable def layOf (a : AV) : Lay := match lc a with | 0 => none | t + 1 => some t
theorem R.one_lay {K : Kap} {ρ : Rho} {a : AV} {l : Lay} {vs : List Value} (h : R P K ρ [a] [l] vs) : l = layOf a := by
 unfold layOf
 rw [lc_lay h]
 cases l <;> rfl
theorem V1.both {K1 K2 : Kap} {ρ1 ρ2 : Rho} (hr : Rle ρ1 ρ2) {a : AV} {v w : Value} (h : V1 P K1 ρ1 a v) (h' : V1 P K2 ρ2 a w) : V1 P K2 ρ1 a w := by
 rcases h with h | ⟨l, c, h, e⟩
 ·exact .inl h
 ·rcases h' with h' | ⟨l', c', h', e'⟩
  ·exact .inl h'
  ·by_cases hl : l = l'
   ·subst hl
    exact .inr ⟨l, c', h.both hr h', e'⟩
   ·exact absurd (h.one_lay.trans h'.one_lay.symm) hl
end
end Go.Proofs.YtgaghaggiblabaaGreatDoor.Ev
namespace Go.Proofs.YtgaghaggiblabaaGreatDoor.Ev
open Go.RowKit
section
variable {P : PX} {o : Oper} {a : Act} {s : St} {wm : Nat}
def G.ins : G -> Option I | .o _ i => some i | .n i => some i | .g _ _ _ i => some i | .gn _ _ i => some i | .z _ => none
def G.dst : G -> Option Nat | .o d _ => some d | .n _ => none | .g _ _ d _ => some d | .gn _ _ _ => none | .z _ => none
def pushd (d : Option Nat) (v : AV) (T : Tm) : Tm := match d with | none => T | some d => (d, v) :: T
structure GOk (P : PX) (N : Nat) (mi : I -> Oper -> Prop) (ops : Array Oper) (g : G) (o : Oper) : Prop where
 dst : o.dst = g.dst
 lt : ∀ d, g.dst = some d -> d < N
 ins : ∀ i, g.ins = some i -> mi i o
 guard : match g with
  | .o .. => o.guard = none
  | .n _ => o.guard = none
  | .g t w _ _ => ∃ j, o.guard = some (j, w) /\ (ops[j]?).bind (·.dst) = some t /\ t < N
  | .gn t w _ => ∃ j, o.guard = some (j, w) /\ (ops[j]?).bind (·.dst) = some t /\ t < N
  | _ => False
theorem TR.pushd {K : Kap} {ρ : Rho} {N : Fr} {T : Tm} (h : TR P K ρ N T a) {d : Option Nat} (hd : ∀ x, d = some x -> x < N.n) {v : AV} {u : Value} (hv : VR P K ρ v u) : TR P K ρ N (Ev.pushd d v T) (a.put d u) := by
 cases d with
 | none => exact h
 | some d => exact h.put (hd d rfl) hv
theorem wanted_of {ops : Array Oper} {K : Kap} {ρ : Rho} {N : Fr} {T : Tm} (ht : TR P K ρ N T a) {o : Oper} {j t : Nat} {w c : Bool} (hg : o.guard = some (j, w)) (hj : (ops[j]?).bind (·.dst) = some t) (hlt : t < N.n) (hl : lk t T = .bool c) :
  Region.wanted o (yielded ops a.tmps) = (c == w) := by
 have hv := ht.at_ t
 rw [hl] at hv
 have hb := hv.bool
 have hget : a.tmps[t]? = some (.bool c) := by
  rw [Array.getD_eq_getD_getElem?] at hb
  rw [Array.getElem?_eq_getElem (by rw [ht.size]; exact hlt)] at hb ⊢
  simpa using hb
 simp [Region.wanted, hg, yielded, hj, hget]
def G.slot : G -> Option Nat | .z d => some d | .o d _ => some d | .n _ => none | .g _ _ d _ => some d | .gn _ _ _ => none
theorem G.slot_of {g : G} {d : Nat} (h : g.dst = some d) : g.slot = some d := by
 cases g <;> first | exact h | cases h
def dsts (is : List G) : List Nat := is.filterMap G.slot
theorem dsts_of {g : G} {is : List G} {i : Nat} (h : i ∉ dsts (g :: is)) : i ∉ dsts is /\ g.slot ≠ some i := by
 unfold dsts at h ⊢
 rw [List.filterMap_cons] at h
 cases e : g.slot with
 | none => rw [e] at h; exact ⟨h, by simp⟩
 | some d => rw [e] at h; exact ⟨fun hm => h (List.mem_cons_of_mem _ hm), fun e' => by cases e'; exact h List.mem_cons_self⟩
inductive GS (p : G -> Nat -> Prop) : List G -> List Nat -> Prop
 | nil : GS p [] []
 | cons {g j is js} : p g j -> GS p is js -> GS p (g :: is) (j :: js)
 | z {d is js} : GS p is js -> GS p (.z d :: is) js
theorem frz_ok (hty : TyOk P) {wm : Nat} {s : St} (hi : Inv P s) {N : Fr} {T : Tm} {a : Act} (ht : TR P s.K s.ρ N T a) {d : Nat} {k : AV -> Hp -> Out} {r : AV × Nat × Hp} (h : frz wm s.H (lk d T) k = some r) :
  ∃ v t, Ext P wm s t /\ TR P t.K t.ρ N ((d, v) :: T) a /\ k v t.H = some r /\ t.n = s.n /\ t.w = s.w := by
 have hv := ht.at_ d
 generalize ha : lk d T = av at h hv
 cases av <;> first | (cases h; done) | skip
 rename_i b off n cap op u
 obtain ⟨h1, h⟩ := brec_some h
 have hw : wm <= b := Nat.ble_eq ▸ h1
 obtain ⟨ab, hb, h⟩ := hk_some h
 obtain ⟨c, l', m', tot, ccap, g1, g2, g3, g4, g5, g6, hlc, he⟩ := hv.sr_inv
 cases ab <;> first | (cases h; done) | skip
 rename_i els q
 obtain ⟨c', kk, oo, f1, f2, f3, f4⟩ := hi.hr.blk _ _ hb
 rw [g1] at f1
 cases f1
 cases oo <;> simp only [BR] at f4
 rename_i arr et fz
 obtain ⟨e1, e2, e3, cs, rest, e4, e5, e6⟩ := f4
 have hE := Ext.fix hi hw hb g1 f3
 have hf : FzK P s.K (upd s.K c arr) s.ρ b [(b, .row els q)] := by
  refine ⟨hE.kle, ?_⟩
  intro b' els' op' x hle hg hx
  have hg' : (if b = b' then some (AB.row els q) else none) = some (.row els' op') := hg
  split at hg'
  ·rename_i e
   subst e
   cases hg'
   rw [g1] at hx
   cases hx
   exact ⟨c, l', arr, cs, rest, by rw [<- e1, <- e2], upd_same _ _ _, e4, e5⟩
  ·cases hg'
 have hrec : FzR (α := AV × Nat × Hp) P s.K (upd s.K c arr) s.ρ (fun _ => none) (Ev.fz 0 [] 60 true) := by
  have hf0 : FzK P s.K (upd s.K c arr) s.ρ 0 [] := ⟨hE.kle, fun b els op x _ hg _ => by cases hg⟩
  have := fz_ok (α := AV × Nat × Hp) hty hf0 60 true
  have hnone : rhz 0 true s.ρ = fun _ => none := by funext b; simp [rhz]
  rwa [hnone] at this
 obtain ⟨v, q1, q2⟩ := fzr_ok hty hf hrec (Nat.le_refl b) (by show (if b = b then _ else _) = _; rw [if_pos rfl]) g1 g2 g3 g4 g5 h s.ρ
 refine ⟨v, _, hE, ⟨ht.size, ht.df, ?_⟩, q1, rfl, rfl⟩
 intro i
 rw [lk_cons]
 split
 ·rename_i e
  subst e
  rw [he]
  exact VR.of (l := none) q2
 ·exact (ht.at_ i).mono hE.kle hE.rle
theorem gs_ok (hty : TyOk P) {ro : Option Nat} {mi : I -> Oper -> Prop} {rec : Rec} {N : Fr} {ops : Array Oper}
  (hmi : ∀ i o a s T kt r, mi i o -> Inv P s -> wm <= s.n -> TR P s.K s.ρ N T a -> evI i rec T wm s.n s.H kt = some r -> OpW P o a s wm kt r)
  {Q : Exit -> Act -> World -> Prop} {k : Tm -> Nat -> Hp -> Out} {r : AV × Nat × Hp} : ∀ {is : List G} {js : List Nat} {s : St} {T : Tm} {a : Act},
   GS (fun g j => ∃ o, ops[j]? = some o /\ GOk P N.n mi ops g o) is js -> Inv P s -> wm <= s.n -> TR P s.K s.ρ N T a -> gs rec wm is T s.n s.H k = some r ->
   (∀ S a' t, TR P t.K t.ρ N S a' -> Ext P wm s t -> (∀ i, i ∉ dsts is -> lk i S = lk i T) -> k S t.n t.H = some r -> Q .normal a' t.w) -> wpOpsIn (Fw ro) 0 P ops Q js a s.w := by
 intro is
 induction is with
 | nil =>
  intro js s T a h hi hw ht hk hQ
  cases h
  exact hQ T a s ht (.refl hi) (fun _ _ => rfl) hk
 | cons g is ih =>
  intro js s T a h hi hw ht hk hQ
  cases h with
  | z h2 =>
   rename_i d
   replace hk : frz wm s.H (lk d T) (fun v H => gs rec wm is ((d, v) :: T) s.n H k) = some r := hk
   obtain ⟨v, t, e1, e2, e3, e4, e5⟩ := frz_ok hty hi ht hk
   rw [<- e5]
   rw [<- e4] at e3
   refine ih h2 e1.inv (Nat.le_trans hw e1.nle) e2 e3 ?_
   intro S a' t' q1 q2 q3 q4
   refine hQ S a' t' q1 (e1.trans q2) ?_ q4
   intro i hni
   obtain ⟨n1, n2⟩ := dsts_of hni
   rw [q3 i n1, lk_cons, if_neg]
   rintro rfl
   exact n2 rfl
  | cons h1 h2 =>
   rename_i j js
   obtain ⟨o, ho, hg⟩ := h1
   -- what follows the operation
   have rest : ∀ (v : Value) (av : AV) (t : St), VR P t.K t.ρ av v -> Ext P wm s t -> gs rec wm is (Ev.pushd g.dst av T) t.n t.H k = some r -> wpOpsIn (Fw ro) 0 P ops Q js (a.put o.dst v) t.w := by
    intro v av t hv he hk'
    have ht' := (ht.mono he.kle he.rle).pushd (d := g.dst) hg.lt hv
    rw [<- hg.dst] at ht'
    rw [<- hg.dst] at hk'
    refine ih h2 he.inv (Nat.le_trans hw he.nle) ht' hk' ?_
    intro S a' t' q1 q2 q3 q4
    refine hQ S a' t' q1 (he.trans q2) ?_ q4
    intro i hni
    obtain ⟨n1, n2⟩ := dsts_of hni
    rw [q3 i n1]
    cases hd : o.dst with
    | none => rfl
    | some d =>
     show lk i ((d, av) :: T) = _
     rw [lk_cons, if_neg]
     rintro rfl
     exact n2 (G.slot_of (hg.dst ▸ hd))
   have skip : gs rec wm is (Ev.pushd g.dst .top T) s.n s.H k = some r -> wpOpsIn (Fw ro) 0 P ops Q js (a.put o.dst undef) s.w := fun hk' => rest undef .top s (.mkTop _) (.refl hi) hk'
   rw [wpOpsIn]
   rw [ho]
   dsimp only
   have hgd := hg.guard
   cases g with
   | o d i =>
    have hwd : Region.wanted o (yielded ops a.tmps) = true := by simp [Region.wanted, hgd]
    rw [if_pos hwd]
    exact hmi i o a s T _ r (hg.ins i rfl) hi hw ht hk ro Q _ (fun v av t hv he hk' => rest v av t hv he hk')
   | n i =>
    have hwd : Region.wanted o (yielded ops a.tmps) = true := by simp [Region.wanted, hgd]
    rw [if_pos hwd]
    exact hmi i o a s T _ r (hg.ins i rfl) hi hw ht hk ro Q _ (fun v av t hv he hk' => rest v av t hv he hk')
   | g t w d i =>
    obtain ⟨jj, g1, g2, g3⟩ := hgd
    replace hk : (match lk t T with | .bool c => Bool.rec (gs rec wm is ((d, .top) :: T) s.n s.H k) (evI i rec T wm s.n s.H fun v n H => gs rec wm is ((d, v) :: T) n H k) (Bool.rec (not' c) c w) | _ => none) = some r := hk
    split at hk
    ·rename_i c hc
     have hwd := wanted_of ht g1 g2 g3 hc
     have hcw : (Bool.rec (not' c) c w : Bool) = (c == w) := by cases c <;> cases w <;> rfl
     rw [hcw] at hk
     cases hb : (c == w) with
     | true =>
      rw [hb] at hk hwd
      rw [if_pos hwd]
      exact hmi i o a s T _ r (hg.ins i rfl) hi hw ht hk ro Q _ (fun v av t hv he hk' => rest v av t hv he hk')
     | false =>
      rw [hb] at hk hwd
      rw [if_neg (by rw [hwd]; simp)]
      exact ⟨fun _ _ => trivial, skip hk⟩
    ·cases hk
   | gn t w i =>
    obtain ⟨jj, g1, g2, g3⟩ := hgd
    replace hk : (match lk t T with | .bool c => Bool.rec (gs rec wm is T s.n s.H k) (evI i rec T wm s.n s.H fun _ n H => gs rec wm is T n H k) (Bool.rec (not' c) c w) | _ => none) = some r := hk
    split at hk
    ·rename_i c hc
     have hwd := wanted_of ht g1 g2 g3 hc
     have hcw : (Bool.rec (not' c) c w : Bool) = (c == w) := by cases c <;> cases w <;> rfl
     rw [hcw] at hk
     cases hb : (c == w) with
     | true =>
      rw [hb] at hk hwd
      rw [if_pos hwd]
      exact hmi i o a s T _ r (hg.ins i rfl) hi hw ht hk ro Q _ (fun v av t hv he hk' => rest v av t hv he hk')
     | false =>
      rw [hb] at hk hwd
      rw [if_neg (by rw [hwd]; simp)]
      exact ⟨fun _ _ => trivial, skip hk⟩
    ·cases hk
   | z _ => exact hgd.elim
end
end Go.Proofs.YtgaghaggiblabaaGreatDoor.Ev
namespace Go.Proofs.YtgaghaggiblabaaGreatDoor.Ev
open Go.RowKit
section
variable {P : PX}
def OpOk (P : PX) (N : Fr) (rec : Rec) (mi : I -> Oper -> Prop) : Prop := ∀ (i : I) (o : Oper) (a : Act) (s : St) (T : Tm) (wm : Nat) (kt : Kv) (r : AV × Nat × Hp),
 mi i o -> Inv P s -> wm <= s.n -> TR P s.K s.ρ N T a -> evI i rec T wm s.n s.H kt = some r -> OpW P o a s wm kt r
theorem TR.outs {V : Nat -> Prop} {K : Kap} {ρ : Rho} {N : Fr} {S T : Tm} {a : Act} (ht : TR P K ρ N S a) {outs ds : List Nat} (hT : Only V T) (hS : ∀ i, i ∉ ds -> lk i S = lk i T) (h1 : ∀ i, i ∈ ds -> i ∈ outs \/ ¬ V i) (h2 : ∀ i, i ∈ outs -> V i) :
  TR P K ρ N (outsT outs S T) a /\ Only V (outsT outs S T) := by
 refine ⟨⟨ht.size, ht.df, fun i => ?_⟩, fun i hi => ?_⟩
 ·rw [lk_outsT]
  split
  ·exact ht.at_ i
  ·rename_i ho
   by_cases hd : i ∈ ds
   ·rcases h1 i hd with h | h
    ·exact absurd h ho
    ·rw [hT i h]; exact .mkTop _
   ·rw [<- hS i hd]; exact ht.at_ i
 ·rw [lk_outsT, if_neg (fun e => hi (h2 i e))]
  exact hT i hi
theorem reg_ok (hty : TyOk P) {N : Fr} {rec : Rec} {mi : I -> Oper -> Prop} (hmi : OpOk P N rec mi) {V : Nat -> Prop} {is : List G} {outs : List Nat} {id : Nat} {ops : Array Oper}
  (hg : GS (fun g j => ∃ o, ops[j]? = some o /\ GOk P N.n mi ops g o) is (List.range ops.size)) (h1 : ∀ i, i ∈ dsts is -> i ∈ outs \/ ¬ V i) (h2 : ∀ i, i ∈ outs -> V i) : RegW P N V (fun wm => gs rec wm is) outs (.region id ops false) := by
 intro ro wm s T a k r Q hi hw ht ho hk hQ
 refine wpIn_region (gs_ok (ro := ro) hty (fun i o a s T kt r => hmi i o a s T wm kt r) hg hi hw ht hk ?_)
 intro S a' t q1 q2 q3 q4
 obtain ⟨p1, p2⟩ := q1.outs ho q3 h1 h2
 exact hQ _ a' t p1 p2 q2 q4
def rvm (P : PX) (r : Rv) (v : ResultVar) : Bool := match r, v with
 | .t i, .tmp j => Nat.beq i j
 | .s i, .cell j t => Nat.beq i j && oneT P t
 | .a t i, .cell j u => Nat.beq i j && Nat.beq t u
 | _, _ => false
def rget (tmps : Array Value) (f : ResultVar) : Sem Value := match f with
 | .tmp t => pure (tmps.getD t undef)
 | .cell c t => do loadVar t (<- asAddr (tmps.getD c undef))
theorem resv_ok (hty : TyOk P) {s : St} (hi : Inv P s) {N : Fr} {T : Tm} {a : Act} (ht : TR P s.K s.ρ N T a) : ∀ {rs : List Rv} {fs : List ResultVar} {k : List AV -> Out} {r : AV × Nat × Hp},
  All2 (fun r f => rvm P r f = true) rs fs -> resv T s.H rs k = some r -> ∃ l vs, k l = some r /\ All2 (V1 P s.K s.ρ) l vs /\
   (fs.mapM (rget a.tmps)).run P s.w = .ok vs s.w := by
 intro rs
 induction rs with
 | nil =>
  intro fs k r h hk
  cases h
  exact ⟨[], [], hk, .nil, by simp⟩
 | cons x rs ih =>
  intro fs k r h hk
  cases h with
  | cons h1 h2 =>
   rename_i f fs
   -- one result, then the others
   have one : ∀ (y : AV) (v : Value), V1 P s.K s.ρ y v -> (rget a.tmps f).run P s.w = .ok v s.w -> resv T s.H rs (fun l => k (y :: l)) = some r ->
     ∃ l vs, k l = some r /\ All2 (V1 P s.K s.ρ) l vs /\ ((f :: fs).mapM (rget a.tmps)).run P s.w = .ok vs s.w := by
    intro y v hv hr hk'
    obtain ⟨l, vs, q1, q2, q3⟩ := ih h2 hk'
    refine ⟨y :: l, v :: vs, q1, .cons hv q2, ?_⟩
    rw [List.mapM_cons, Sem.run_bind, hr, Result.andThen_ok, Sem.run_bind, q3]
    rfl
   cases x with
   | t i =>
    cases f <;> simp only [rvm] at h1 <;> first | (cases h1; done) | skip
    rename_i j
    have := beq_true.1 h1
    subst this
    replace hk : (match lk i T with | .tup _ => none | v => resv T s.H rs fun l => k (v :: l)) = some r := hk
    have hv := ht.at_ i
    have hnt : ∀ l, lk i T ≠ .tup l := by
     intro l e
     rw [e] at hk
     cases hk
    have hv1 : V1 P s.K s.ρ (lk i T) (a.tmps.getD i undef) := by
     rcases hv with hv | ⟨l, _, e, _⟩
     ·exact hv
     ·exact absurd e (hnt l)
    refine one (lk i T) _ hv1 (by simp [rget]) ?_
    revert hk
    generalize lk i T = v at *
    intro hk
    cases v <;> first | exact hk | (cases hk; done)
   | s i =>
    cases f <;> simp only [rvm, Bool.and_eq_true] at h1 <;> first | (cases h1; done) | skip
    rename_i j t
    obtain ⟨e, h3⟩ := h1
    have := beq_true.1 e
    subst this
    replace hk : rd s.H (lk i T) (fun v => match v with | .agg .. => none | .tup _ => none | .ob j u => Bool.rec none (resv T s.H rs fun l => k (.ob j u :: l)) (Nat.beq u 0) | v => resv T s.H rs fun l => k (v :: l)) = some r := hk
    obtain ⟨z, l, c, off, cs, hv, hR, hl, hk⟩ := rd_ok hty hi (ht.at_ i) hk
    have hl0 : l = none := by
     have e := lc_lay hR
     cases z <;> first | (cases hk; done) | (cases l <;> first | rfl | (cases e; done)) | skip
     obtain ⟨h0, _⟩ := brec_some hk
     have := beq_true.1 h0
     cases l <;> first | rfl | (cases e; cases this)
    subst hl0
    obtain ⟨u, rfl⟩ := hR.single
    have hc := hl.range 0 u rfl
    simp only [Nat.add_zero] at hc
    refine one z u (.inr ⟨none, _, hR, rfl⟩) ?_ (by cases z <;> first | exact hk | (cases hk; done) | exact (brec_some hk).2)
    unfold rget
    dsimp only
    rw [hv]
    simp only [asAddr, loadVar, Sem.run_bind, Sem.run_pure, Result.andThen_ok, run_isAgg_one h3]
    simp [hc]
   | a t i =>
    cases f <;> simp only [rvm, Bool.and_eq_true] at h1 <;> first | (cases h1; done) | skip
    rename_i j t'
    obtain ⟨e, e'⟩ := h1
    have := beq_true.1 e
    subst this
    have := beq_true.1 e'
    subst this
    replace hk : rd s.H (lk i T) (fun v => match v with | .agg u fs => Bool.rec none (resv T s.H rs fun l => k (.agg u fs :: l)) (Nat.beq t u) | .ob j u => Bool.rec none (resv T s.H rs fun l => k (.ob j u :: l)) (Nat.beq (Nat.add t 1) u) | _ => none) = some r := hk
    obtain ⟨z, l, c, off, cs, hv, hR, hl, hk⟩ := rd_ok hty hi (ht.at_ i) hk
    have hl1 : l = some t /\ resv T s.H rs (fun l => k (z :: l)) = some r := by
     have e := lc_lay hR
     cases z <;> first | (cases hk; done) | skip
     ·obtain ⟨h1, hk⟩ := brec_some hk
      have := beq_true.1 h1
      subst this
      exact ⟨lcode_inj e.symm, hk⟩
     ·obtain ⟨h1, hk⟩ := brec_some hk
      have := beq_true.1 h1
      subst this
      exact ⟨lcode_inj e.symm, hk⟩
    obtain ⟨hl1, hk⟩ := hl1
    subst hl1
    have hsz := hR.size hty
    have hc := hR.parts t List.mem_cons_self
    obtain ⟨ts, hts⟩ := hc
    obtain ⟨d, hd, hrow⟩ := isAgg_some hts s.w
    obtain ⟨i', hinf⟩ := info_of hd
    have hs : (P.info? t).map (·.size) = some cs.length := by
     rw [hsz, hinf]
     simp [szs, szl, Program.cellsOf, hinf]
    refine one _ (.agg cs.toArray) (.inr ⟨some t, _, hR, rfl⟩) ?_ hk
    unfold rget
    dsimp only
    rw [hv]
    simp only [asAddr, Sem.run_bind, Sem.run_pure, Result.andThen_ok, run_loadVar_mid s.w c off t cs d hl.range hd hrow hs]
theorem All2.len {α β : Type} {p : α -> β -> Prop} {as : List α} {bs : List β} (h : All2 p as bs) : as.length = bs.length := by
 induction h with
 | nil => rfl
 | cons _ _ ih => simp [ih]
theorem results_ok (hty : TyOk P) {s : St} (hi : Inv P s) {N : Fr} {T : Tm} {a : Act} (ht : TR P s.K s.ρ N T a) {rs : List Rv} {fn : Func} {k : List AV -> Out} {r : AV × Nat × Hp}
  (h : All2 (fun r f => rvm P r f = true) rs fn.results.toList) (hk : resv T s.H rs k = some r) : ∃ l v, k l = some r /\ VR P s.K s.ρ (one l) v /\ (results fn a.tmps).run P s.w = .ok v s.w := by
 obtain ⟨l, vs, h1, h2, h3⟩ := resv_ok hty hi ht h hk
 refine ⟨l, if h : vs.toArray.size = 1 then vs.toArray[0] else .tuple vs.toArray, h1, ?_, ?_⟩
 ·cases h2 with
  | nil => exact .inr ⟨[], #[], rfl, rfl, .nil⟩
  | cons g1 g2 =>
   cases g2 with
   | nil => exact .inl g1
   | cons g3 g4 =>
    rename_i x y xs ys
    refine .inr ⟨_, _, rfl, by rw [dif_neg (by simp)], .cons g1 (.cons g3 g4)⟩
 ·have e : results fn a.tmps = (do let vs <- fn.results.mapM (rget a.tmps); pure (if h : vs.size = 1 then vs[0] else .tuple vs)) := by
   unfold results
   congr 1
  rw [e, Array.mapM_eq_mapM_toList]
  simp only [Sem.run_bind, map_eq_pure_bind, bind_assoc, pure_bind, h3, Result.andThen_ok, Sem.run_pure]
end
end Go.Proofs.YtgaghaggiblabaaGreatDoor.Ev
