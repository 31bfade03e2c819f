/- The evaluator, step by step, on values that are not known. No condition. -/
import Derived.Test.YtgaghaggiblabaaGreatDoorEve
set_option linter.all false
namespace Go.Proofs.YtgaghaggiblabaaGreatDoor.Ev
open Go.RowKit
section
variable {rec : Rec} {wm n : Nat} {T : Tm} {H : Hp} {K : Kv} {k : Kt} {kn kr : Kt} {kx : Nat -> Kt} {α : Type}
theorem gs_nil' : gs rec wm [] T n H k = k T n H := rfl
theorem gs_o' {d : Nat} {i : I} {is : List G} : gs rec wm (.o d i :: is) T n H k = evI i rec T wm n H fun v n H => gs rec wm is ((d, v) :: T) n H k := rfl
theorem gs_n' {i : I} {is : List G} : gs rec wm (.n i :: is) T n H k = evI i rec T wm n H fun _ n H => gs rec wm is T n H k := rfl
theorem gs_z' {d : Nat} {is : List G} : gs rec wm (.z d :: is) T n H k = frz wm H (lk d T) fun v H => gs rec wm is ((d, v) :: T) n H k := rfl
theorem gs_gt {t d : Nat} {w : Bool} {i : I} {is : List G} (h : lk t T = .bool w) : gs rec wm (.g t w d i :: is) T n H k = evI i rec T wm n H fun v n H => gs rec wm is ((d, v) :: T) n H k := by
 show (match lk t T with | .bool c => (Bool.rec (gs rec wm is ((d, .top) :: T) n H k) (evI i rec T wm n H fun v n H => gs rec wm is ((d, v) :: T) n H k) (Bool.rec (not' c) c w) : Out) | _ => none) = _
 rw [h]
 cases w <;> rfl
theorem gs_gf {t d : Nat} {w c : Bool} {i : I} {is : List G} (h : lk t T = .bool c) (hc : c = !w) : gs rec wm (.g t w d i :: is) T n H k = gs rec wm is ((d, .top) :: T) n H k := by
 show (match lk t T with | .bool c => (Bool.rec (gs rec wm is ((d, .top) :: T) n H k) (evI i rec T wm n H fun v n H => gs rec wm is ((d, v) :: T) n H k) (Bool.rec (not' c) c w) : Out) | _ => none) = _
 rw [h, hc]
 cases w <;> rfl
theorem gs_g0 {t d : Nat} {i : I} {is : List G} (h : lk t T = .bool false) : gs rec wm (.g t true d i :: is) T n H k = gs rec wm is ((d, .top) :: T) n H k := gs_gf h rfl
theorem gs_g1 {t d : Nat} {i : I} {is : List G} (h : lk t T = .bool true) : gs rec wm (.g t false d i :: is) T n H k = gs rec wm is ((d, .top) :: T) n H k := gs_gf h rfl
theorem ev_t' {i : Nat} : ev T (.t i) = lk i T := rfl
theorem ev_c' {v : AV} : ev T (.c v) = v := rfl
theorem evs_nil' : evs T [] = [] := rfl
theorem evs_cons' {x : O} {xs : List O} : evs T (x :: xs) = ev T x :: evs T xs := rfl
theorem evI_mv {x : O} : evI (.mv x) rec T wm n H K = K (ev T x) n H := rfl
theorem evI_pk {c a b : O} : evI (.pk c a b) = ePk c a b := rfl
theorem evI_al {z : AV} : evI (.al z) rec T wm n H K = K (.ptr n 0 [] (lc z)) (n + 1) ((n, .row [z] false) :: H) := rfl
theorem evI_bx {x : O} : evI (.bx x) = eBx x := rfl
theorem evI_ld {x : O} : evI (.ld x) = eLd x := rfl
theorem evI_la {t : Nat} {x : O} : evI (.la t x) = eLa t x := rfl
theorem evI_st {x v : O} : evI (.st x v) = eSt x v := rfl
theorem evI_sa {t : Nat} {x v : O} : evI (.sa t x v) = eSa t x v := rfl
theorem evI_nc {x : O} : evI (.nc x) = eNc x := rfl
theorem evI_iadd {x y : O} : evI (.iadd x y) = eIadd x y := rfl
theorem evI_isub {x y : O} : evI (.isub x y) = eIsub x y := rfl
theorem evI_imul {x y : O} : evI (.imul x y) = eImul x y := rfl
theorem evI_irem {x y : O} : evI (.irem x y) = eIrem x y := rfl
theorem evI_ilss {x y : O} : evI (.ilss x y) = eIlss x y := rfl
theorem evI_igtr {x y : O} : evI (.igtr x y) = eIgtr x y := rfl
theorem evI_igeq {x y : O} : evI (.igeq x y) = eIgeq x y := rfl
theorem evI_eq {h : Sh} {x y : O} : evI (.eq h x y) = eEq h x y := rfl
theorem evI_ne {h : Sh} {x y : O} : evI (.ne h x y) = eNe h x y := rfl
theorem evI_nt {x : O} : evI (.nt x) = eNt x := rfl
theorem evI_fa {t f u : Nat} {x : O} : evI (.fa t x f u) = eFa t x f u := rfl
theorem evI_ia {t e m : Nat} {x j : O} : evI (.ia t e m x j) = eIa t e m x j := rfl
theorem evI_ex {x : O} {j : Nat} : evI (.ex x j) = eEx x j := rfl
theorem evI_bl {z : AV} {ps : List (Nat × O)} : evI (.bl z ps) = eBl z ps := rfl
theorem evI_bs {z : AV} {m : Nat} {ps : List (Nat × O)} : evI (.bs z m ps) = eBs z m ps := rfl
theorem evI_sl {q e : Nat} {x : O} {lo hi mx : Option O} : evI (.sl q e x lo hi mx) = eSl q e x lo hi mx := rfl
theorem evI_ln {q : Nat} {x : O} : evI (.ln q x) rec T wm n H K = lnv q (ev T x) fun m => K (.int .i64 (m : Nat)) n H := rfl
theorem evI_ca {f : Nat} {as : List O} : evI (.ca f as) rec T wm n H K = call rec f (evs T as) wm n H K := rfl
theorem call_at {f : Nat} {as : List AV} {r : AV × Nat × Hp} (h : rec f as wm n H = some r) : call rec f as wm n H K = K r.1 r.2.1 r.2.2 := by unfold call; rw [h]
theorem nbeq (a b : Nat) : Nat.beq a b = decide (a = b) := by
 cases e : Nat.beq a b with
 | true => rw [Nat.eq_of_beq_eq_true e]; simp
 | false => exact (decide_eq_false (Nat.ne_of_beq_eq_false e)).symm
theorem nble (a b : Nat) : Nat.ble a b = decide (a <= b) := by
 cases e : Nat.ble a b with
 | true => exact (decide_eq_true (Nat.le_of_ble_eq_true e)).symm
 | false => exact (decide_eq_false fun h => by rw [Nat.ble_eq_true_of_le h] at e; cases e).symm
theorem keq64 : keq .i64 .i64 = true := rfl
theorem and_t (b : Bool) : and' true b = b := rfl
theorem and_f (b : Bool) : and' false b = false := rfl
theorem not_t : not' true = false := rfl
theorem not_f : not' false = true := rfl
theorem rd_ptr {b j c : Nat} {p : List Nat} {f : AV -> Option α} : rd H (.ptr b j p c) f = hk b H fun ab => rdb j p ab f := rfl
theorem rd_pv {a : AV} {f : AV -> Option α} : rd H (.pv a) f = f a := rfl
theorem hk_at {b : Nat} {ab : AB} {f : AB -> Option α} (h : hget b H = some ab) : hk b H f = f ab := by rw [hk_eq, h]; rfl
theorem wr_ptr {b j c : Nat} {p : List Nat} {v : AV} {f : Hp -> Option α} : wr wm H (.ptr b j p c) v f = Bool.rec none (hk b H fun ab => wrb j p v ab fun ab => f (hset b ab H)) (Nat.ble wm b) := rfl
theorem nth0 {a : AV} {l : List AV} {f : AV -> Option α} : nth (a :: l) 0 f = f a := rfl
theorem nthS {a : AV} {l : List AV} {j : Nat} {f : AV -> Option α} : nth (a :: l) (j + 1) f = nth l j f := by
 show (Bool.rec (nth l (Nat.sub (j + 1) 1) f) (f a) (Nat.beq (j + 1) 0) : Option α) = _
 rfl
theorem nth_at : ∀ {l : List AV} {j : Nat} {f : AV -> Option α} (h : j < l.length), nth l j f = f l[j]
 | [], _, _, h => by cases h
 | a :: l, 0, f, _ => rfl
 | a :: l, j + 1, f, h => by rw [nthS, nth_at (by simpa using h)]; rfl
theorem gp_nil {a : AV} {f : AV -> Option α} : gp [] a f = f a := rfl
theorem gp_agg {j t : Nat} {p : List Nat} {fs : List AV} {f : AV -> Option α} : gp (j :: p) (.agg t fs) f = nth fs j fun x => gp p x f := rfl
theorem rdb_row {j : Nat} {p : List Nat} {e : List AV} {op : Bool} {f : AV -> Option α} : rdb j p (.row e op) f = nth e j fun a => gp p a f := rfl
theorem wrb_row {j : Nat} {p : List Nat} {v : AV} {e : List AV} {op : Bool} {f : AB -> Option α} : wrb j p v (.row e op) f = nth e j fun a => sp v p a fun y => f (.row (lset e j y) op) := rfl
theorem sp_nil {v a : AV} {f : AV -> Option α} : sp v [] a f = Bool.rec none (f v) (like a v) := rfl
theorem sp_agg {v : AV} {j t : Nat} {p : List Nat} {fs : List AV} {f : AV -> Option α} : sp v (j :: p) (.agg t fs) f = nth fs j fun x => sp v p x fun y => f (.agg t (lset fs j y)) := rfl
theorem lset0 {a v : AV} {l : List AV} : lset (a :: l) 0 v = v :: l := rfl
theorem lsetS {a v : AV} {l : List AV} {j : Nat} : lset (a :: l) (j + 1) v = a :: lset l j v := rfl
theorem build_nil {fs : List AV} {f : List AV -> Option α} : build T [] fs f = f fs := rfl
theorem build_cons {j : Nat} {x : O} {ps : List (Nat × O)} {fs : List AV} {f : List AV -> Option α} : build T ((j, x) :: ps) fs f = nth fs j fun a => Bool.rec none (build T ps (lset fs j (ev T x)) f) (like a (ev T x)) := rfl
theorem happ_eq : ∀ A B : Hp, happ A B = A ++ B
 | [], _ => rfl
 | a :: A, B => by rw [List.cons_append, <- happ_eq A B]; rfl
theorem happ_nil (A : Hp) : happ A [] = A := by rw [happ_eq, List.append_nil]
theorem hget_cons (b c : Nat) (ab : AB) (H : Hp) : hget b ((c, ab) :: H) = if c = b then some ab else hget b H := by rw [hget]
theorem eqv_i {a b : Int} {f : Bool -> Option α} : eqv 9 .i (.int .i64 a) (.int .i64 b) f = f (beqI a b) := rfl
theorem wrap64 {m : Int} (h1 : 0 <= m) (h2 : m <= 1000000000) : wrap .i64 m = m := by
 obtain ⟨k, rfl⟩ := Int.eq_ofNat_of_zero_le h1
 show (Bool.rec (IntKind.wrap .i64 (.ofNat k)) (.ofNat k) (Nat.ble k 9223372036854775807) : Int) = _
 rw [nble, decide_eq_true (by omega)]
 rfl
theorem code_skip : code rec wm .skip T n H kn kx kr = kn T n H := rfl
theorem code_rg {is : List G} {outs : List Nat} : code rec wm (.rg is outs) T n H kn kx kr = gs rec wm is T n H fun S n H => kn (outsT outs S T) n H := rfl
theorem code_dr {is : List D} {outs : List Nat} : code rec wm (.dr is outs) T n H kn kx kr = ds rec wm is [] T n H fun S n H => kn (outsT outs S T) n H := rfl
theorem code_seq {a b : C} : code rec wm (.seq a b) T n H kn kx kr = code rec wm a T n H (fun T n H => code rec wm b T n H kn kx kr) kx kr := rfl
theorem code_ct {c : O} {a b : C} (h : ev T c = .bool true) : code rec wm (.cond c a b) T n H kn kx kr = code rec wm a T n H kn kx kr := by
 show (match ev T c with | .bool q => (Bool.rec (code rec wm b T n H kn kx kr) (code rec wm a T n H kn kx kr) q : Out) | _ => none) = _
 rw [h]
theorem code_cf {c : O} {a b : C} (h : ev T c = .bool false) : code rec wm (.cond c a b) T n H kn kx kr = code rec wm b T n H kn kx kr := by
 show (match ev T c with | .bool q => (Bool.rec (code rec wm b T n H kn kx kr) (code rec wm a T n H kn kx kr) q : Out) | _ => none) = _
 rw [h]
theorem code_block {id : Nat} {b : C} : code rec wm (.block id b) T n H kn kx kr = code rec wm b T n H kn (fun j T n H => Bool.rec (kx j T n H) (kn T n H) (Nat.beq j id)) kr := rfl
theorem code_loop {b : C} : code rec wm (.loop b) T n H kn kx kr = lp (code rec wm b) kx kr 1000000 T n H := rfl
theorem code_exit {id : Nat} : code rec wm (.exit id) T n H kn kx kr = kx id T n H := rfl
theorem code_ret : code rec wm .ret T n H kn kx kr = kr T n H := rfl
theorem lp_S {ib : Tm -> Nat -> Hp -> Kt -> (Nat -> Kt) -> Kt -> Out} {m : Nat} : lp ib kx kr (m + 1) T n H = ib T n H (lp ib kx kr m) kx kr := rfl
theorem ds_nil {L : List (Nat × Nat)} : ds rec wm [] L T n H k = k T n H := rfl
theorem ds_p {d : Option Nat} {i : I} {is : List D} {L : List (Nat × Nat)} {v : AV} (h : ∀ f : Kv, evI i rec T n n [] f = f v n []) : ds rec wm (.p none d i :: is) L T n H k = ds rec wm is ((n, n) :: L) (dput d v T) n H k := by
 show (match evI i rec T n n [] id3 with | some r => (Bool.rec none (ds rec wm is ((n, n) :: L) (dput d r.1 T) n H k) (Nat.beq r.2.1 n) : Out) | none => none) = _
 rw [h]
 show (Bool.rec none (ds rec wm is ((n, n) :: L) (dput d v T) n H k) (Nat.beq n n) : Out) = _
 rw [nbeq, decide_eq_true rfl]
theorem ds_e {d : Option Nat} {i : I} {is : List D} {L : List (Nat × Nat)} {v : AV} {n' : Nat} {V : Hp} (h : ∀ f : Kv, evI i rec T n n [] f = f v n' V) : ds rec wm (.e none d i :: is) L T n H k = ds rec wm is ((n, n') :: L) (dput d v T) n' (happ V H) k := by
 show (match evI i rec T n n [] id3 with | some r => (ds rec wm is ((n, r.2.1) :: L) (dput d r.1 T) r.2.1 (happ r.2.2 H) k : Out) | none => none) = _
 rw [h]; rfl
theorem ds_a {d : Option Nat} {w al : Bool} {i : I} {is : List D} {L : List (Nat × Nat)} {v : AV} {H' : Hp} (h : ∀ f : Kv, evI i rec T (Bool.rec n wm w) n H f = f v n H') : ds rec wm (.a none d w al [] i :: is) L T n H k = ds rec wm is ((n, n) :: L) (dput d v T) n H' k := by
 show (match evI i rec T (Bool.rec n wm w) n H id3 with | some r => (Bool.rec none (ds rec wm is ((n, r.2.1) :: L) (dput d r.1 T) r.2.1 (happ r.2.2 []) k) (okb al n r.2.1) : Out) | none => none) = _
 rw [h]
 show (Bool.rec none (ds rec wm is ((n, n) :: L) (dput d v T) n (happ H' []) k) (okb al n n) : Out) = _
 rw [happ_nil]
 cases al
 ·show (Bool.rec none _ (Nat.beq n n) : Out) = _
  rw [nbeq, decide_eq_true rfl]
 ·rfl
theorem dput_some {d : Nat} {v : AV} : dput (some d) v T = (d, v) :: T := rfl
theorem dput_none {v : AV} : dput none v T = T := rfl
end
end Go.Proofs.YtgaghaggiblabaaGreatDoor.Ev
namespace Go.Proofs.YtgaghaggiblabaaGreatDoor.Ev.T
open Go
noncomputable abbrev i (n : Int) : AV := .int .i64 n
noncomputable def sln (l : List AV) : AV := match l with | [] => .sn | _ => .sv l false
end Go.Proofs.YtgaghaggiblabaaGreatDoor.Ev.T
