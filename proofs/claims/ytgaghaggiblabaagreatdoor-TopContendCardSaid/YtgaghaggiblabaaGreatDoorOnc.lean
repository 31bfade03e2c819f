/- sync.Once.Do is sound as the evaluator has it. No condition. -/
import Derived.Test.YtgaghaggiblabaaGreatDoorEve
import Derived.Test.YtgaghaggiblabaaGreatDoorProg
import Derived.KernelRfl
import Derived.Tactics
import Derived.Tactics2
import Derived.Defers
import Derived.Laws.Pointers
import Derived.Laws.LoneSync
import Derived.RegionTactic
import Derived.RegionCalls
import Derived.ChangeAlike
set_option linter.all false
namespace Go.Proofs.YtgaghaggiblabaaGreatDoor
theorem on_disable (w : World) : (callFunc 368 #[]).run Tryz.prog w = .ok (.value (.tuple #[])) w := run_call_mark0 Tryz.func368 (by kernel_rfl) (by kernel_rfl) (by kernel_rfl) .disable (by kernel_rfl) w
theorem on_enable (w : World) : (callFunc 370 #[]).run Tryz.prog w = .ok (.value (.tuple #[])) w := run_call_mark0 Tryz.func370 (by kernel_rfl) (by kernel_rfl) (by kernel_rfl) .enable (by kernel_rfl) w
theorem on_acquire (a : Addr) (w : World) : (callFunc 371 #[.pointer (some a)]).run Tryz.prog w = .ok (.value (.tuple #[])) w := run_call_marked Tryz.func371 (by kernel_rfl) (by kernel_rfl) (by kernel_rfl) .acquire (by kernel_rfl) a w
theorem on_releaseMerge (a : Addr) (w : World) : (callFunc 373 #[.pointer (some a)]).run Tryz.prog w = .ok (.value (.tuple #[])) w := run_call_marked Tryz.func373 (by kernel_rfl) (by kernel_rfl) (by kernel_rfl) .releaseMerge (by kernel_rfl) a w
set_option maxRecDepth 100000 in
theorem on_store (a : Addr) (x : Value) (u : FrameMode) (w : World) (hc : w.cell? a = some x) (hz : w.frozen? a = false) :
  CallsD Tryz.prog 226 #[.pointer (some a), .bool true] u w fun e u' w' => u' = u /\ (e = .returned (.tuple #[]) /\ w' = w.drew.setCell a (.int .u32 1)) := by
 have hc' : w.drew.cell? a = some x := by go_simp
 have hz' : w.drew.frozen? a = false := by go_simp
 have hst := run_call_store (P := Tryz.prog) Tryz.func298 (by kernel_rfl) (by kernel_rfl) (by kernel_rfl) (by kernel_rfl) (k := .u32) (y := 1) hc' hz'
 go_enter_d Tryz.func226, Tryz.ntmps226
 go_wp2
 go_region_calls
 all_goals (go_end0; exact ⟨rfl, rfl⟩)
set_option maxRecDepth 100000 in
theorem on_unlock (a : Addr) (u : FrameMode) (w : World) (hc : w.cell? a = some (.int .i32 1)) (hz : w.frozen? a = false) :
  CallsD Tryz.prog 225 #[.pointer (some a)] u w fun e u' w' => u' = u /\ (e = .returned (.tuple #[]) /\ w' = w.setCell a (.int .i32 0)) := by
 have hd := on_disable
 have he := on_enable
 have hr := on_releaseMerge
 have hadd := run_call_add (P := Tryz.prog) Tryz.func374 (by kernel_rfl) (by kernel_rfl) (by kernel_rfl) .i32 (by kernel_rfl) (y := -1) (s := 0) hc hz (by simp [go_sem]; rfl)
 have hcv := run_convert_to_unsafe (P := Tryz.prog) (src := 461) (dst := 465) Tryz.underlying461 Tryz.underlying465 (by kernel_rfl) hc
 go_enter_d Tryz.func225, Tryz.ntmps225
 go_wp2
 go_end0
 go_wp2
 go_end0
 exact ⟨rfl, rfl⟩
set_option maxRecDepth 100000 in
theorem on_lock (a : Addr) (w : World) (hc : w.cell? a = some (.int .i32 0)) (hz : w.frozen? a = false) :
  Calls Tryz.prog 224 #[.pointer (some a)] w fun e w' => e = .returned (.tuple #[]) /\ w' = w.setCell a (.int .i32 1) := by
 have hd := on_disable
 have he := on_enable
 have ha := on_acquire
 have hcas := run_call_cas_hit (P := Tryz.prog) Tryz.func369 (by kernel_rfl) (by kernel_rfl) (by kernel_rfl) .i32 (by kernel_rfl) (y := 1) hc hz
 have hc' : (w.setCell a (.int .i32 1)).cell? a = some (.int .i32 1) := World.cell?_setCell_same w a _ hc
 have hcv := run_convert_to_unsafe (P := Tryz.prog) (src := 461) (dst := 465) Tryz.underlying461 Tryz.underlying465 (by kernel_rfl) hc'
 go_enter Tryz.func224, Tryz.ntmps224
 go_wp2
 first | go_end0 | (simp only [Exit.inBlock, Exit.then]; refine bodyPost_ret (results_none rfl _ _ _) rfl ?_) | refine bodyPost_ret (results_none rfl _ _ _) rfl ?_
 go_wp2
 go_end0
 exact ⟨rfl, rfl⟩
end Go.Proofs.YtgaghaggiblabaaGreatDoor
namespace Go.Proofs.YtgaghaggiblabaaGreatDoor
set_option maxRecDepth 100000 in
set_option maxHeartbeats 1600000 in
theorem on_slow (b off : Nat) (g : Nat) (fi caps : Array Value) (w : World) (R : World -> Prop) (hcf : ∀ w, (callFunc g (fi ++ caps)).run Tryz.prog w = .ok (.enter g (fi ++ caps)) w)
  (h0 : w.cell? ⟨b, off, none⟩ = some (.int .u32 0)) (h1 : w.cell? ⟨b, off + 1, none⟩ = some (.int .i32 0))
  (f1 : w.frozen? ⟨b, off + 1, none⟩ = false)
  (hc : Calls Tryz.prog g (fi ++ caps) (w.setCell ⟨b, off + 1, none⟩ (.int .i32 1)) fun e w2 => (∃ v, e = .returned v) /\ (∃ x0, w2.cell? ⟨b, off, none⟩ = some x0) /\ w2.cell? ⟨b, off + 1, none⟩ = some (.int .i32 1) /\ w2.frozen? ⟨b, off, none⟩ = false /\ w2.frozen? ⟨b, off + 1, none⟩ = false /\ R w2) :
  Calls Tryz.prog 157 #[.pointer (some ⟨b, off, none⟩), .func (.func g) fi caps] w fun e w' => e = .returned (.tuple #[]) /\
   ∃ w2, R w2 /\ w' = (w2.drew.setCell ⟨b, off, none⟩ (.int .u32 1)).setCell ⟨b, off + 1, none⟩ (.int .i32 0) := by
 have hl := run_call_load (P := Tryz.prog) Tryz.func223 (by kernel_rfl) (by kernel_rfl) (by kernel_rfl) .u32 (by kernel_rfl) (w := w.setCell ⟨b, off + 1, none⟩ (.int .i32 1)) (a := ⟨b, off, none⟩) (x := 0) ((World.cell?_setCell_other _ ⟨b, off + 1, none⟩ ⟨b, off, none⟩ _ (by simp)).trans h0)
 have hnot : ∀ (x : Bool) (w : World), (Op.unary .not (.bool x)).run Tryz.prog w = .ok (.bool (!x)) w := fun _ _ => rfl
 go_enter_defers Tryz.func157, Tryz.ntmps157
 go_wp2_with (go_at_call 224; refine (on_lock ⟨b, off + 1, none⟩ _ (by go_simp) (by go_simp)).mono ?_; rintro e w' ⟨rfl, rfl⟩)
 go_wp2_with (first | (refine hc.mono ?_; rintro e w2 ⟨⟨v, rfl⟩, ⟨x0, e1⟩, e2, e3, e4, e5⟩) | (go_at_call 156; go_in))
 dsimp only [bodyPostD]
 -- two deferred calls, the last laid first
 refine leaves_cons (f := 226) (args := #[.pointer (some ⟨b, off, none⟩), .bool true]) (by simp) (by simp [go_sem]) ?_
 refine (on_store ⟨b, off, none⟩ x0 .returning _ e1 e3).mono ?_
 rintro e u' w'' ⟨rfl, rfl, rfl⟩
 refine leaves_cons (f := 225) (args := #[.pointer (some ⟨b, off + 1, none⟩)]) (by simp [settle]) (by simp [go_sem]) ?_
 refine (on_unlock ⟨b, off + 1, none⟩ _ _ ?_ (by simp [e4])).mono ?_
 ·refine (World.cell?_setCell_other _ ⟨b, off, none⟩ ⟨b, off + 1, none⟩ _ (by simp)).trans ?_
  rw [World.cell?_drew]
  exact e2
 rintro e u' w'' ⟨rfl, rfl, rfl⟩
 simp [Leaves, settle, results, Tryz.results157]
 exact ⟨w2, e5, rfl⟩
set_option maxRecDepth 100000 in
set_option maxHeartbeats 1600000 in
theorem on_do (b off : Nat) (g : Nat) (fi caps : Array Value) (w : World) (R : World -> Prop) (hcf : ∀ w, (callFunc g (fi ++ caps)).run Tryz.prog w = .ok (.enter g (fi ++ caps)) w)
  (h0 : w.cell? ⟨b, off, none⟩ = some (.int .u32 0)) (h1 : w.cell? ⟨b, off + 1, none⟩ = some (.int .i32 0))
  (f1 : w.frozen? ⟨b, off + 1, none⟩ = false)
  (hc : Calls Tryz.prog g (fi ++ caps) (w.setCell ⟨b, off + 1, none⟩ (.int .i32 1)) fun e w2 => (∃ v, e = .returned v) /\ (∃ x0, w2.cell? ⟨b, off, none⟩ = some x0) /\ w2.cell? ⟨b, off + 1, none⟩ = some (.int .i32 1) /\ w2.frozen? ⟨b, off, none⟩ = false /\ w2.frozen? ⟨b, off + 1, none⟩ = false /\ R w2) :
  Calls Tryz.prog 79 #[.pointer (some ⟨b, off, none⟩), .func (.func g) fi caps] w fun e w' => e = .returned (.tuple #[]) /\
   ∃ w2, R w2 /\ w' = (w2.drew.setCell ⟨b, off, none⟩ (.int .u32 1)).setCell ⟨b, off + 1, none⟩ (.int .i32 0) := by
 have hl := run_call_load (P := Tryz.prog) Tryz.func223 (by kernel_rfl) (by kernel_rfl) (by kernel_rfl) .u32 (by kernel_rfl) h0
 have hnot : ∀ (x : Bool) (w : World), (Op.unary .not (.bool x)).run Tryz.prog w = .ok (.bool (!x)) w := fun _ _ => rfl
 go_enter Tryz.func79, Tryz.ntmps79
 go_wp2_with (first | (go_at_call 157; refine (on_slow b off g fi caps _ R hcf h0 h1 f1 hc).mono ?_; rintro e w' ⟨rfl, w2, e1, rfl⟩) | (go_at_call 156; go_in))
 go_end0
 exact ⟨rfl, w2, e1, rfl⟩
set_option maxRecDepth 100000 in
theorem on_done (a : Addr) (d : Int) (hd : ¬ d = 0) (fv : Value) (w : World) (h0 : w.cell? a = some (.int .u32 d)) :
  Calls Tryz.prog 79 #[.pointer (some a), fv] w fun e w' => e = .returned (.tuple #[]) /\ w' = w := by
 have hl := run_call_load (P := Tryz.prog) Tryz.func223 (by kernel_rfl) (by kernel_rfl) (by kernel_rfl) .u32 (by kernel_rfl) h0
 have hnot : ∀ (x : Bool) (w : World), (Op.unary .not (.bool x)).run Tryz.prog w = .ok (.bool (!x)) w := fun _ _ => rfl
 have hd' : (d != 0) = true := by simp [hd]
 go_enter Tryz.func79, Tryz.ntmps79
 go_wp2_with (go_at_call 156; go_in)
 go_end0
 exact ⟨rfl, rfl⟩
end Go.Proofs.YtgaghaggiblabaaGreatDoor
namespace Go.Proofs.YtgaghaggiblabaaGreatDoor.Ev
open Go.RowKit Go.Proofs
abbrev HC (C : Nat -> Int) : Prop := ∀ i, 1 <= C i /\ C i <= 1000000000 /\ (i <= 99 -> C i <= 99) /\ (100 <= i -> i <= 1000 -> C (i + 1) = C i + 1)
noncomputable abbrev QX (X : Nat -> AV) (C : Nat -> Int) (hC : HC C) : PX := ⟨Tryz.prog, X, C, hC⟩
noncomputable def c60 : C := .seq (.rg [.o 3 (.nc (.t 1)), .o 4 (.fa 159 (.t 0) 1 153), .o 5 (.fa 153 (.t 4) 1 0), .o 6 (.ld (.t 5)), .o 7 (.fa 159 (.t 0) 2 157), .o 8 (.fa 157 (.t 7) 1 155), .o 9 (.fa 155 (.t 8) 0 0), .o 10 (.ld (.t 9)), .o 11 (.eq .i (.t 6) (.c (.int .u32 0))), .o 12 (.eq .i (.t 10) (.c (.int .i32 0)))] [5, 9, 11, 12])
 (.cond (.t 11) (.cond (.t 12) (.seq (.rg [.n (.st (.t 9) (.c (.int .i32 1))), .n (.cd (.t 1) []), .o 13 (.ld (.t 9)), .o 14 (.eq .i (.t 13) (.c (.int .i32 1)))] [14]) (.cond (.t 14) (.rg [.n (.st (.t 5) (.c (.int .u32 1))), .n (.st (.t 9) (.c (.int .i32 0)))] []) .bad)) .bad) .skip)
noncomputable def f60 : FD := ⟨c60, [], .w, 2⟩
section
variable {P : PX} {s : St} {wm : Nat} {Kt : Kv} {r : AV × Nat × Hp} {rec : Rec} {T : Tm} {xo yo : O}
theorem nc_any {n : Nat} {H : Hp} (h : evI (.nc xo) rec T wm n H Kt = some r) : Kt (ev T xo) n H = some r := by
 replace h : eNc xo rec T wm n H Kt = some r := h
 unfold eNc at h
 generalize ev T xo = x at h
 cases x <;> first | exact h | (cases h; done)
theorem eqi_any {n : Nat} {H : Hp} {k : IntKind} {m : Int} (hk : keq k .i64 = false) (h : evI (.eq .i xo (.c (.int k m))) rec T wm n H Kt = some r) : ∃ m', ev T xo = .int k m' /\ Kt (.bool (beqI m' m)) n H = some r := by
 replace h : (match ieq (ev T xo) (.int k m) with | some c => Kt (.bool c) n H | none => none) = some r := h
 generalize ev T xo = x at h
 cases x <;> first | (cases h; done) | skip
 ·rename_i j m'
  cases hj : keq j k with
  | false =>
   replace h : (match (Bool.rec none (some (beqI m' m)) (keq j k) : Option Bool) with | some c => Kt (.bool c) n H | none => none) = some r := h
   rw [hj] at h
   cases h
  | true =>
   replace h : (match (Bool.rec none (some (beqI m' m)) (keq j k) : Option Bool) with | some c => Kt (.bool c) n H | none => none) = some r := h
   rw [hj] at h
   rw [keq_ok hj]
   exact ⟨m', rfl, h⟩
 ·replace h : (match (Bool.rec none (some false) (and' (keq k .i64) (ltI m 1)) : Option Bool) with | some c => Kt (.bool c) n H | none => none) = some r := h
  rw [hk] at h
  cases h
theorem cd_any {n : Nat} {H : Hp} (h : evI (.cd xo []) rec T wm n H Kt = some r) : ∃ f fi ca q, ev T xo = .fn f fi ca /\ rec f (fi ++ ca) wm n H = some q /\ Kt q.1 q.2.1 q.2.2 = some r := by
 replace h : eCd xo [] rec T wm n H Kt = some r := h
 unfold eCd at h
 generalize ev T xo = x at h
 cases x <;> first | (cases h; done) | skip
 rename_i f fi ca
 replace h : call rec f (app fi (app [] ca)) wm n H Kt = some r := h
 rw [app_eq, app_eq] at h
 obtain ⟨q, h1, h2⟩ := call_some h
 exact ⟨f, fi, ca, q, rfl, by simpa using h1, h2⟩
theorem cond_any {c : O} {a : C} {n : Nat} {H : Hp} {kn : Tm -> Nat -> Hp -> Out} {kx : Nat -> Tm -> Nat -> Hp -> Out} {kr : Tm -> Nat -> Hp -> Out} (h : code rec wm (.cond c a .bad) T n H kn kx kr = some r) : ev T c = .bool true /\ code rec wm a T n H kn kx kr = some r := by
 replace h : (match ev T c with | .bool c => Bool.rec (none : Out) (code rec wm a T n H kn kx kr) c | _ => none) = some r := h
 split at h
 ·rename_i d hd
  cases d with
  | true => exact ⟨hd, h⟩
  | false => cases h
 ·cases h
theorem cond_two {c : O} {a : C} {n : Nat} {H : Hp} {kn : Tm -> Nat -> Hp -> Out} {kx : Nat -> Tm -> Nat -> Hp -> Out} {kr : Tm -> Nat -> Hp -> Out} (h : code rec wm (.cond c a .skip) T n H kn kx kr = some r) : (ev T c = .bool true /\ code rec wm a T n H kn kx kr = some r) \/ (ev T c = .bool false /\ kn T n H = some r) := by
 replace h : (match ev T c with | .bool c => Bool.rec (kn T n H) (code rec wm a T n H kn kx kr) c | _ => none) = some r := h
 split at h
 ·rename_i d hd
  cases d with
  | true => exact .inl ⟨hd, h⟩
  | false => exact .inr ⟨hd, h⟩
 ·cases h
theorem fa_i {P : PX} {s : St} (hty : TyOk P) {x : AV} {v : Value} (hv : VR P s.K s.ρ x v) (hx : ev T xo = x) {t f : Nat} {fd : Field} (hf : FldOk P t f fd) {u : Nat} (hu : u = lcode (lay P fd.type))
  (h : evI (.fa (t + 1) xo f u) rec T wm s.n s.H Kt = some r) : ∃ x' c off, v = .pointer (some ⟨c, off, none⟩) /\ VR P s.K s.ρ x' (.pointer (some ⟨c, off + fd.offset, none⟩)) /\ Kt x' s.n s.H = some r := fa_any (rec := rec) (wm := wm) hty hv hx hf hu h
theorem ld_i {P : PX} {s : St} (hty : TyOk P) (hi : Inv P s) {x : AV} {v : Value} (hv : VR P s.K s.ρ x v) (hx : ev T xo = x) (h : evI (.ld xo) rec T wm s.n s.H Kt = some r) :
  ∃ z c off u, v = .pointer (some ⟨c, off, none⟩) /\ VR P s.K s.ρ z u /\ s.w.cell? ⟨c, off, none⟩ = some u /\ Kt z s.n s.H = some r := ld_any (rec := rec) (wm := wm) hty hi hv hx h
theorem st_i {P : PX} {s : St} (hty : TyOk P) (hi : Inv P s) {x : AV} {v : Value} (hv : VR P s.K s.ρ x v) (hx : ev T xo = x) {k : IntKind} {m : Int} (h : evI (.st xo (.c (.int k m))) rec T wm s.n s.H Kt = some r) :
  ∃ c off t, v = .pointer (some ⟨c, off, none⟩) /\ Ext P wm s t /\ Kt .top t.n t.H = some r /\ t.w = s.w.setCell ⟨c, off, none⟩ (.int k m) /\ s.w.frozen? ⟨c, off, none⟩ = false /\ (s.w.cell? ⟨c, off, none⟩).isSome = true := st_any (rec := rec) (wm := wm) hty hi hv hx h
end
theorem rg_any {rec : Rec} {wm : Nat} {is : List G} {outs : List Nat} {c : C} {T : Tm} {n : Nat} {H : Hp} {kn : Tm -> Nat -> Hp -> Out} {kx : Nat -> Tm -> Nat -> Hp -> Out} {kr : Tm -> Nat -> Hp -> Out} {r : AV × Nat × Hp} (h : code rec wm (.seq (.rg is outs) c) T n H kn kx kr = some r) : gs rec wm is T n H (fun S n H => code rec wm c (outsT outs S T) n H kn kx kr) = some r := h
theorem rg0_any {rec : Rec} {wm : Nat} {is : List G} {outs : List Nat} {T : Tm} {n : Nat} {H : Hp} {kn : Tm -> Nat -> Hp -> Out} {kx : Nat -> Tm -> Nat -> Hp -> Out} {kr : Tm -> Nat -> Hp -> Out} {r : AV × Nat × Hp} (h : code rec wm (.rg is outs) T n H kn kx kr = some r) : gs rec wm is T n H (fun S n H => kn (outsT outs S T) n H) = some r := h
theorem nil_any {rec : Rec} {wm : Nat} {T : Tm} {n : Nat} {H : Hp} {k : Tm -> Nat -> Hp -> Out} {r : AV × Nat × Hp} (h : gs rec wm [] T n H k = some r) : k T n H = some r := h
theorem o_any {rec : Rec} {wm d : Nat} {i : I} {is : List G} {T : Tm} {n : Nat} {H : Hp} {k : Tm -> Nat -> Hp -> Out} {r : AV × Nat × Hp} (h : gs rec wm (.o d i :: is) T n H k = some r) : evI i rec T wm n H (fun v n H => gs rec wm is ((d, v) :: T) n H k) = some r := h
theorem n_any {rec : Rec} {wm : Nat} {i : I} {is : List G} {T : Tm} {n : Nat} {H : Hp} {k : Tm -> Nat -> Hp -> Out} {r : AV × Nat × Hp} (h : gs rec wm (.n i :: is) T n H k = some r) : evI i rec T wm n H (fun _ n H => gs rec wm is T n H k) = some r := h
theorem All2.imp2 {α β : Type} {p q : α -> β -> Prop} (f : ∀ a b, p a b -> q a b) {l : List α} {m : List β} (h : All2 p l m) : All2 q l m := by
 induction h with
 | nil => exact .nil
 | cons h1 _ ih => exact .cons (f _ _ h1) ih
theorem on_fld {X : Nat -> AV} {C : Nat -> Int} {hC : HC C} {t f : Nat} {fs : Array Field} {fd : Field} (h1 : tin (QX X C hC) t = true) (h2 : tin (QX X C hC) fd.type = true) (h3 : Tryz.prog.underlying t = some (.struct fs)) (h4 : fs[f]? = some fd) (h5 : Nat.beq (Tryz.prog.cellsOf fd.type) 0 = false) (h6 : (Tryz.prog.underlying fd.type).isSome = true) : FldOk (QX X C hC) t f fd :=
 ⟨h1, h2, ⟨fs, h3, h4⟩, (fun e => by rw [e] at h5; cases h5), h6⟩
theorem on_f1 (X : Nat -> AV) (C : Nat -> Int) (hC : HC C) : ∃ fd, FldOk (QX X C hC) 158 1 fd /\ fd.offset = 0 /\ 153 = lcode (lay (QX X C hC) fd.type) := ⟨_, on_fld (by kernel_rfl) (by kernel_rfl) Tryz.underlying158 (by rfl) (by kernel_rfl) (by kernel_rfl), by kernel_rfl, by kernel_rfl⟩
theorem on_f2 (X : Nat -> AV) (C : Nat -> Int) (hC : HC C) : ∃ fd, FldOk (QX X C hC) 152 1 fd /\ fd.offset = 0 /\ 0 = lcode (lay (QX X C hC) fd.type) := ⟨_, on_fld (by kernel_rfl) (by kernel_rfl) Tryz.underlying152 (by rfl) (by kernel_rfl) (by kernel_rfl), by kernel_rfl, by kernel_rfl⟩
theorem on_f3 (X : Nat -> AV) (C : Nat -> Int) (hC : HC C) : ∃ fd, FldOk (QX X C hC) 158 2 fd /\ fd.offset = 1 /\ 157 = lcode (lay (QX X C hC) fd.type) := ⟨_, on_fld (by kernel_rfl) (by kernel_rfl) Tryz.underlying158 (by rfl) (by kernel_rfl) (by kernel_rfl), by kernel_rfl, by kernel_rfl⟩
theorem on_f4 (X : Nat -> AV) (C : Nat -> Int) (hC : HC C) : ∃ fd, FldOk (QX X C hC) 156 1 fd /\ fd.offset = 0 /\ 155 = lcode (lay (QX X C hC) fd.type) := ⟨_, on_fld (by kernel_rfl) (by kernel_rfl) Tryz.underlying156 (by rfl) (by kernel_rfl) (by kernel_rfl), by kernel_rfl, by kernel_rfl⟩
theorem on_f5 (X : Nat -> AV) (C : Nat -> Int) (hC : HC C) : ∃ fd, FldOk (QX X C hC) 154 0 fd /\ fd.offset = 0 /\ 0 = lcode (lay (QX X C hC) fd.type) := ⟨_, on_fld (by kernel_rfl) (by kernel_rfl) Tryz.underlying154 (by rfl) (by kernel_rfl) (by kernel_rfl), by kernel_rfl, by kernel_rfl⟩
theorem on_snd {X : Nat -> AV} {C : Nat -> Int} {hC : HC C} (hty : TyOk (QX X C hC)) : Snd (QX X C hC) 79 f60 := by
 refine ⟨⟨_, Tryz.func79, by kernel_rfl, by kernel_rfl⟩, ?_⟩
 intro rec hrec hfn av wm s r vs hk hi hw hv
 obtain ⟨hb, h⟩ := brec_some hk
 clear hk
 rcases av with _ | ⟨x, _ | ⟨y, _ | ⟨z, av⟩⟩⟩
 ·cases h
 ·cases h
 ·cases hv with
  | cons hx hv =>
   cases hv with
   | cons hy hv =>
    cases hv
    rename_i vx vy
    replace h : code rec wm c60 [(0, x), (1, y)] s.n s.H (fin .w [] s.n s.H) (fun _ _ _ _ => none) (fin .w [] s.n s.H) = some r := h
    unfold c60 at h
    have h := nc_any (o_any (rg_any h))
    obtain ⟨d1, e1, e2, e3⟩ := on_f1 X C hC
    obtain ⟨p1, c, off, rfl, v1, h⟩ := fa_i hty hx rfl e1 e3 (o_any h)
    rw [e2] at v1
    clear d1 e1 e2 e3
    obtain ⟨d1, e1, e2, e3⟩ := on_f2 X C hC
    obtain ⟨p2, c2, off2, k1, v2, h⟩ := fa_i hty v1 rfl e1 e3 (o_any h)
    cases k1
    rw [e2] at v2
    clear d1 e1 e2 e3
    obtain ⟨z0, c2, off2, u0, k1, l0, h0, h⟩ := ld_i hty hi v2 rfl (o_any h)
    cases k1
    obtain ⟨d1, e1, e2, e3⟩ := on_f3 X C hC
    obtain ⟨p3, c2, off2, k1, v3, h⟩ := fa_i hty hx rfl e1 e3 (o_any h)
    cases k1
    rw [e2] at v3
    clear d1 e1 e2 e3
    obtain ⟨d1, e1, e2, e3⟩ := on_f4 X C hC
    obtain ⟨p4, c2, off2, k1, v4, h⟩ := fa_i hty v3 rfl e1 e3 (o_any h)
    cases k1
    rw [e2] at v4
    clear d1 e1 e2 e3
    obtain ⟨d1, e1, e2, e3⟩ := on_f5 X C hC
    obtain ⟨p5, c2, off2, k1, v5, h⟩ := fa_i hty v4 rfl e1 e3 (o_any h)
    cases k1
    rw [e2] at v5
    clear d1 e1 e2 e3
    obtain ⟨z1, c2, off2, u1, k1, l1, h1, h⟩ := ld_i hty hi v5 rfl (o_any h)
    cases k1
    obtain ⟨m0, k1, h⟩ := eqi_any rfl (o_any h)
    obtain ⟨m1, k2, h⟩ := eqi_any rfl (o_any h)
    replace k1 : z0 = .int .u32 m0 := k1
    replace k2 : z1 = .int .i32 m1 := k2
    subst k1 k2
    have := l0.int
    subst this
    have := l1.int
    subst this
    clear l0 l1
    obtain ⟨k1, h⟩ | ⟨k1, h⟩ := cond_two (nil_any h)
    rotate_left
    ·replace k1 : AV.bool (beqI m0 0) = .bool false := k1
     rw [AV.bool.injEq, beqI_eq] at k1
     simp only [Nat.add_zero] at v1 v2 v3 v4 v5 h0 h1
     replace h : some ((.tup [] : AV), s.n, s.H) = some r := h
     cases h
     refine (on_done ⟨c, off, none⟩ m0 (by simpa using k1) vy s.w h0).mono ?_
     rintro e w' ⟨rfl, rfl⟩
     exact ⟨_, s, rfl, rfl, .inr ⟨[], #[], rfl, rfl, .nil⟩, .refl hi, rfl, rfl⟩
    replace k1 : AV.bool (beqI m0 0) = .bool true := k1
    obtain ⟨k2, h⟩ := cond_any h
    replace k2 : AV.bool (beqI m1 0) = .bool true := k2
    rw [AV.bool.injEq, beqI_eq, beq_iff_eq] at k1 k2
    subst k1 k2
    simp only [Nat.add_zero] at v1 v2 v3 v4 v5 h0 h1
    obtain ⟨c3, off3, t1, k1, E1, h, w1, fz1, _⟩ := st_i hty hi v5 rfl (n_any (rg_any h))
    cases k1
    obtain ⟨f, fi, ca, q, k1, hq, h⟩ := cd_any (n_any h)
    replace k1 : y = .fn f fi ca := k1
    subst k1
    obtain ⟨l, cc, hR, he⟩ := hy.known (by simp) (by simp)
    obtain ⟨vf, vc, hv', g1, g2⟩ : ∃ vf vc, vy = .func (.func f) (List.toArray vf) (List.toArray vc) /\ All2 (VR (QX X C hC) s.K s.ρ) fi vf /\ All2 (VR (QX X C hC) s.K s.ρ) ca vc := by
     cases hR with
     | fn g1 g2 g3 =>
      cases g3
      exact ⟨_, _, he, g1.all, g2.all⟩
    clear hR he
    subst hv'
    have hw1 := Nat.le_trans hw E1.nle
    have hfo := hfn f _ _ _ _ _ hq
    have hcall := hrec f (fi ++ ca) wm t1 q (vf ++ vc) hq E1.inv hw1 (All2.imp2 (fun _ _ e => e.mono E1.kle E1.rle) (g1.app g2))
    rw [w1] at hcall
    have e9 : #[Value.pointer (some ⟨c, off, none⟩), Value.func (.func f) vf.toArray vc.toArray] = [Value.pointer (some ⟨c, off, none⟩), Value.func (.func f) vf.toArray vc.toArray].toArray := rfl
    refine (on_do c off f vf.toArray vc.toArray s.w (fun w => CallPost (QX X C hC) wm s r (.returned (.tuple #[])) ((w.drew.setCell ⟨c, off, none⟩ (.int .u32 1)).setCell ⟨c, off + 1, none⟩ (.int .i32 0))) (fun w => run_callFunc hfo _ w) h0 h1 fz1 ?_).mono ?_
    ·rw [List.append_toArray]
     refine hcall.mono ?_
     rintro e w2 ⟨v, t2, rfl, rfl, _, E2, n2, H2⟩
     rw [<- n2, <- H2] at h
     have hw2 := Nat.le_trans hw1 E2.nle
     obtain ⟨z2, c3, off3, u2, k1, l2, c1, h⟩ := ld_i hty E2.inv ((v5.mono E1.kle E1.rle).mono E2.kle E2.rle) rfl (o_any h)
     cases k1
     obtain ⟨m2, k1, h⟩ := eqi_any rfl (o_any h)
     replace k1 : z2 = .int .i32 m2 := k1
     subst k1
     have := l2.int
     subst this
     obtain ⟨k1, h⟩ := cond_any (nil_any h)
     replace k1 : AV.bool (beqI m2 1) = .bool true := k1
     rw [AV.bool.injEq, beqI_eq, beq_iff_eq] at k1
     subst k1
     have E3 : Ext (QX X C hC) wm t2 ⟨t2.K, t2.ρ, t2.n, t2.H, t2.w.drew⟩ := Ext.world E2.inv rfl rfl rfl rfl
     have h' := n_any (rg0_any h)
     obtain ⟨c3, off3, t3, k1, E4, h, w3, fz3, x3⟩ := st_i (s := ⟨t2.K, t2.ρ, t2.n, t2.H, t2.w.drew⟩) hty E3.inv ((v2.mono E1.kle E1.rle).mono E2.kle E2.rle) rfl h'
     cases k1
     obtain ⟨c3, off3, t4, k1, E5, h, w4, fz4, x4⟩ := st_i hty E4.inv (((v5.mono E1.kle E1.rle).mono E2.kle E2.rle).mono E4.kle E4.rle) rfl (n_any h)
     cases k1
     replace h : some ((.tup [] : AV), t4.n, t4.H) = some r := h
     cases h
     refine ⟨⟨v, rfl⟩, ?_, c1, fz3, ?_, ?_⟩
     ·exact Option.isSome_iff_exists.1 x3
     ·rw [w3] at fz4
      simpa using fz4
     ·refine ⟨_, t4, rfl, ?_, .inr ⟨[], #[], rfl, rfl, .nil⟩, E1.trans (E2.trans (E3.trans (E4.trans E5))), rfl, rfl⟩
      rw [w4, w3]
    ·rintro e w' ⟨rfl, w2, hp, rfl⟩
     exact hp
 ·cases hb
end Go.Proofs.YtgaghaggiblabaaGreatDoor.Ev
