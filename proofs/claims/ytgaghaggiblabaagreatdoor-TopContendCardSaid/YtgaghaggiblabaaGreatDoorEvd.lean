/- An operation of the model against the evaluator's; tables of types; code in one piece. No condition. -/
import Derived.Test.YtgaghaggiblabaaGreatDoorEvc
import Derived.Maps.RangeRun
set_option linter.all false
namespace Go.Proofs.YtgaghaggiblabaaGreatDoor.Ev
open Go.RowKit
section
variable (P : PX)
noncomputable def intk (k : IntKind) (u : TypeId) : Bool := match P.underlying u with | some (.int k') => keq k k' | _ => false
noncomputable def bbk (t u : TypeId) : Bool := match P.underlying t with | some (.slice e) => (match P.underlying e with | some (.int k) => keq k .u8 | _ => false) && (match P.underlying u with | some .string => true | _ => false) | _ => false
noncomputable def fldc (t f : Nat) : Nat := match P.underlying t with | some (.struct fs) => (match fs[f]? with | some fd => lcode (lay P fd.type) | none => 0) | _ => 0
noncomputable def fldk (t f u : Nat) : Bool := match P.underlying t with | some (.struct fs) => (match fs[f]? with | some fd => (P.underlying fd.type).isSome && not' (Nat.beq (P.cellsOf fd.type) 0) && Nat.beq u (lcode (lay P fd.type)) && tin P t && tin P fd.type | none => false) | _ => false
noncomputable def idxk (U t e m : Nat) : Bool := match P.underlying U with
 | some (.slice el) => Nat.beq t 0 && Nat.beq e (lcode (lay P el)) && (P.underlying el).isSome && tin P el && tin P U
 | some (.array m' el) => Nat.beq t (U + 1) && Nat.beq m m' && Nat.beq e (lcode (lay P el)) && (P.underlying el).isSome && tin P el && tin P U
 | _ => false
noncomputable def mapz (z : AV) (t : TypeId) : Bool := match P.underlying t with | some (.map _ e) => zok P z e | _ => false
noncomputable def oeq (x y : Operand) : Bool := match x, y with | .tmp i, .tmp j => Nat.beq i j | .const (.int k n), .const (.int k' n') => keq k k' && beqI n n' | _, _ => false
noncomputable def tys (ts : Array TypeId) (f : List TypeId -> Bool) : Bool := f ts.toList
noncomputable def mik (X : Nat × Nat × Nat) (i : I) (o : Oper) : Bool := match i with
 | .mv x => (match o.op with | .move y => om x y | .assign y => om x y | _ => false)
 | .pk c a b => (match o.op with | .pick c' a' b' => om c c' && om a a' && om b b' | _ => false)
 | .al z => (match o.op with | .alloc t => zok P z t | _ => false)
 | .bx x => (match o.op with | .box _ y => om x y | _ => false)
 | .ld x => (match o.op with | .load t y => om x y && oneT P t | _ => false)
 | .la t x => (match o.op with | .load t' y => Nat.beq t t' && om x y | _ => false)
 | .st x v => (match o.op with | .store t y z => om x y && om v z && oneT P t | _ => false)
 | .sa t x v => (match o.op with | .store t' y z => Nat.beq t t' && om x y && om v z | _ => false)
 | .nc x => (match o.op with | .nilCheck y => om x y | _ => false)
 | .nt x => (match o.op with | .unOp .not _ y => om x y | _ => false)
 | .cv k x => (match o.op with | .convert t u y => om x y && (P.underlying t).isSome && intk P k u | _ => false)
 | .bb x => (match o.op with | .convert t u y => om x y && bbk P t u | _ => false)
 | .eq h x y => (match o.op with | .binOp .eql t x' y' _ => om x x' && om y y' && shk P h t | _ => false)
 | .ne h x y => (match o.op with | .binOp .neq t x' y' _ => om x x' && om y y' && shk P h t | _ => false)
 | .fa t x f u => (match o.op with | .fieldAddr t' y f' => Nat.beq t (t' + 1) && Nat.beq f f' && om x y && fldk P t' f' u | _ => false)
 | .fd t x f => (match o.op with | .field t' y f' => Nat.beq t (t' + 1) && Nat.beq f f' && om x y && fldk P t' f' (fldc P t' f') | _ => false)
 | .ia t e m x i => (match o.op with | .indexAddr U x' i' => om x x' && om i i' && idxk P U t e m | _ => false)
 | .ix t x i => (match o.op with | .index t' x' i' => om x x' && om i i' && ixk P t t' | _ => false)
 | .ex x i => (match o.op with | .extract y i' => om x y && Nat.beq i i' | _ => false)
 | .bl z ps => (match o.op with | .build t qs => pom P ps qs.toList && blk P z t | _ => false)
 | .bs z m ps => (match o.op with | .buildSlice t m' qs => Nat.beq m m' && pom P ps qs.toList && rwk P z t && Nat.ble m 1000 | _ => false)
 | .ms z x => (match o.op with | .makeSlice t a' b' => om x a' && om x b' && oeq a' b' && rwk P z t | _ => false)
 | .mm => (match o.op with | .makeMap _ q => q.isNone | _ => false)
 | .mu h m k v => (match o.op with | .mapUpdate t y q z => om m y && om k q && om v z && mapk P h t | .insert t y q z => om m y && om k q && om v z && mapk P h t | _ => false)
 | .lu h z m k ok => (match o.op with | .lookup t y q ok' => om m y && om k q && mapk P h t && mapz P z t && (ok == ok') | _ => false)
 | .mf f fi ca => (match o.op with | .makeFunc (.func f') a' b' => Nat.beq f f' && oms fi a'.toList && oms ca b'.toList | _ => false)
 | .sl q e x lo hi mx => (match o.op with | .slice U x' lo' hi' mx' => om x x' && omo lo lo' && omo hi hi' && omo mx mx' && slk P q e U | _ => false)
 | .ln q x => (match o.op with | .call { callee := .builtin .len, args := ys, argTypes := ts } => oms [x] ys.toList && tys ts fun l => (match l with | [t] => lnk P q t | _ => false) | _ => false)
 | .cp x => (match o.op with | .call { callee := .builtin .cap, args := ys, argTypes := ts } => oms [x] ys.toList && tys ts fun l => (match l with | [t] => lnk P 0 t | _ => false) | _ => false)
 | .mi x y => (match o.op with | .call { callee := .builtin .min, args := ys, argTypes := _ } => oms [x, y] ys.toList | _ => false)
 | .ma x y => (match o.op with | .call { callee := .builtin .max, args := ys, argTypes := _ } => oms [x, y] ys.toList | _ => false)
 | .ap e s x => (match o.op with | .call { callee := .builtin .append, args := ys, argTypes := ts } => oms [s, x] ys.toList && tys ts fun l => (match l with | [t, u] => apk P e t u | _ => false) | _ => false)
 | .az z s x => (match o.op with | .call { callee := .builtin .append, args := ys, argTypes := ts } => oms [s, x] ys.toList && tys ts fun l => (match l with | [t, u] => azk P z t u | _ => false) | _ => false)
 | .co e d s => (match o.op with | .call { callee := .builtin .copy, args := ys, argTypes := ts } => oms [d, s] ys.toList && tys ts fun l => (match l with | [t, _] => cok' P e t | _ => false) | _ => false)
 | .cl z s => (match o.op with | .call { callee := .builtin .clear, args := ys, argTypes := ts } => oms [s] ys.toList && tys ts fun l => (match l with | [t] => rwk P z t | _ => false) | _ => false)
 | .ca f as => (match o.op with | .call { callee := .value (.func f'), args := ys, argTypes := _ } => Nat.beq f f' && oms as ys.toList | _ => false)
 | .cd f as => (match o.op with | .call { callee := .value y, args := ys, argTypes := _ } => om f y && oms as ys.toList | _ => false)
 | .lx x => (match o.op with | .call { callee := .value (.func f'), args := ys, argTypes := _ } => Nat.beq f' X.1 && oms [x] ys.toList | _ => false)
 | .sx x v => (match o.op with | .call { callee := .value (.func f'), args := ys, argTypes := _ } => Nat.beq f' X.2.1 && oms [x, v] ys.toList | _ => false)
 | .cs x p v => (match o.op with | .call { callee := .value (.func f'), args := ys, argTypes := _ } => Nat.beq f' X.2.2 && oms [x, p, v] ys.toList | _ => false)
 | .iadd x y => (match o.op with | .binOp .add _ x' y' _ => om x x' && om y y' | _ => false)
 | .isub x y => (match o.op with | .binOp .sub _ x' y' _ => om x x' && om y y' | _ => false)
 | .imul x y => (match o.op with | .binOp .mul _ x' y' _ => om x x' && om y y' | _ => false)
 | .iquo x y => (match o.op with | .binOp .quo _ x' y' _ => om x x' && om y y' | _ => false)
 | .irem x y => (match o.op with | .binOp .rem _ x' y' _ => om x x' && om y y' | _ => false)
 | .iand x y => (match o.op with | .binOp .and _ x' y' _ => om x x' && om y y' | _ => false)
 | .ior x y => (match o.op with | .binOp .or _ x' y' _ => om x x' && om y y' | _ => false)
 | .ixor x y => (match o.op with | .binOp .xor _ x' y' _ => om x x' && om y y' | _ => false)
 | .ishl x y => (match o.op with | .binOp .shl _ x' y' _ => om x x' && om y y' | _ => false)
 | .ishr x y => (match o.op with | .binOp .shr _ x' y' _ => om x x' && om y y' | _ => false)
 | .ilss x y => (match o.op with | .binOp .lss _ x' y' _ => om x x' && om y y' | _ => false)
 | .ileq x y => (match o.op with | .binOp .leq _ x' y' _ => om x x' && om y y' | _ => false)
 | .igtr x y => (match o.op with | .binOp .gtr _ x' y' _ => om x x' && om y y' | _ => false)
 | .igeq x y => (match o.op with | .binOp .geq _ x' y' _ => om x x' && om y y' | _ => false)
 | .no => true
 | _ => false
end
section
variable {P : PX}
theorem oeq_ok {x y : Operand} (h : oeq x y = true) : x = y := by
 unfold oeq at h
 split at h
 ·rw [beq_true.1 h]
 ·rw [Bool.and_eq_true] at h
  have := keq_ok h.1
  subst this
  have := h.2
  rw [beqI_eq] at this
  rw [eq_of_beq this]
 ·cases h
theorem intk_ok {k : IntKind} {u : TypeId} (h : intk P k u = true) : P.underlying u = some (.int k) := by
 unfold intk at h
 split at h
 ·rename_i k' e
  rw [e, keq_ok h]
 ·cases h
theorem bbk_ok {t u : TypeId} (h : bbk P t u = true) : ∃ e, P.underlying t = some (.slice e) /\ P.underlying e = some (.int .u8) /\ P.underlying u = some .string := by
 unfold bbk at h
 split at h <;> first | (cases h; done) | skip
 rename_i e h1
 rw [Bool.and_eq_true] at h
 obtain ⟨h2, h3⟩ := h
 split at h2 <;> first | (cases h2; done) | skip
 rename_i k h4
 split at h3 <;> first | (cases h3; done) | skip
 rename_i h5
 exact ⟨e, h1, by rw [h4, keq_ok h2], h5⟩
theorem fldk_ok {t f u : Nat} (h : fldk P t f u = true) : ∃ fd, FldOk P t f fd /\ u = lcode (lay P fd.type) := by
 unfold fldk at h
 split at h <;> first | (cases h; done) | skip
 rename_i fs h1
 split at h <;> first | (cases h; done) | skip
 rename_i fd h2
 simp only [Bool.and_eq_true] at h
 obtain ⟨⟨⟨⟨h3, h4⟩, h5⟩, h6⟩, h7⟩ := h
 refine ⟨fd, ⟨h6, h7, ⟨fs, h1, h2⟩, ?_, h3⟩, beq_true.1 h5⟩
 intro e
 rw [e] at h4
 cases h4
theorem idxk_ok {U t e m : Nat} (h : idxk P U t e m = true) : IdxOk P U t e m := by
 unfold idxk at h
 split at h <;> first | (cases h; done) | skip
 ·rename_i el h1
  simp only [Bool.and_eq_true] at h
  obtain ⟨⟨⟨⟨h2, h3⟩, h4⟩, h5⟩, h6⟩ := h
  exact ⟨el, .inl ⟨h1, beq_true.1 h2⟩, beq_true.1 h3, h4, h5, h6⟩
 ·rename_i m' el h1
  simp only [Bool.and_eq_true] at h
  obtain ⟨⟨⟨⟨⟨h2, h0⟩, h3⟩, h4⟩, h5⟩, h6⟩ := h
  have := beq_true.1 h0
  subst this
  exact ⟨el, .inr ⟨h1, beq_true.1 h2⟩, beq_true.1 h3, h4, h5, h6⟩
theorem mapz_ok {z : AV} {t : TypeId} (h : mapz P z t = true) : ∃ el, (∃ key, P.underlying t = some (.map key el)) /\ zok P z el = true := by
 unfold mapz at h
 split at h <;> first | (cases h; done) | skip
 rename_i k e h1
 exact ⟨e, ⟨k, h1⟩, h⟩
theorem oms1 {x : O} {ys : Array Operand} (h : oms [x] ys.toList = true) : ∃ y, ys = #[y] /\ om x y = true := by
 obtain ⟨l⟩ := ys
 cases l with
 | nil => cases h
 | cons y l =>
  cases l with
  | nil =>
   simp only [oms, Bool.and_eq_true] at h
   exact ⟨y, rfl, h.1⟩
  | cons z l =>
   simp only [oms, Bool.and_eq_true] at h
   cases h.2
theorem oms2 {x x2 : O} {ys : Array Operand} (h : oms [x, x2] ys.toList = true) : ∃ y y2, ys = #[y, y2] /\ om x y = true /\ om x2 y2 = true := by
 obtain ⟨l⟩ := ys
 cases l with
 | nil => cases h
 | cons y l =>
  simp only [oms, Bool.and_eq_true] at h
  obtain ⟨h1, h2⟩ := h
  obtain ⟨z, e, h3⟩ := oms1 (ys := ⟨l⟩) (by simpa [oms] using h2)
  cases e
  exact ⟨y, z, rfl, h1, h3⟩
theorem oms3 {x x2 x3 : O} {ys : Array Operand} (h : oms [x, x2, x3] ys.toList = true) : ∃ y y2 y3, ys = #[y, y2, y3] /\ om x y = true /\ om x2 y2 = true /\ om x3 y3 = true := by
 obtain ⟨l⟩ := ys
 cases l with
 | nil => cases h
 | cons y l =>
  simp only [oms, Bool.and_eq_true] at h
  obtain ⟨h1, h2⟩ := h
  obtain ⟨z, z2, e, h3, h4⟩ := oms2 (ys := ⟨l⟩) (by simpa [oms] using h2)
  cases e
  exact ⟨y, z, z2, rfl, h1, h3, h4⟩
theorem tys1 {ts : Array TypeId} {f : TypeId -> Bool} (h : tys ts (fun l => match l with | [t] => f t | _ => false) = true) : ∃ t, ts = #[t] /\ f t = true := by
 obtain ⟨l⟩ := ts
 unfold tys at h
 rcases l with _ | ⟨a, _ | ⟨b, l⟩⟩ <;> first | (cases h; done) | exact ⟨_, rfl, h⟩
theorem tys2 {ts : Array TypeId} {f : TypeId -> TypeId -> Bool} (h : tys ts (fun l => match l with | [t, u] => f t u | _ => false) = true) : ∃ t u, ts = #[t, u] /\ f t u = true := by
 obtain ⟨l⟩ := ts
 unfold tys at h
 rcases l with _ | ⟨a, _ | ⟨b, _ | ⟨c, l⟩⟩⟩ <;> first | (cases h; done) | exact ⟨_, _, rfl, h⟩
def RecFn (P : PX) (rec : Rec) : Prop := ∀ f as wm n H r, rec f as wm n H = some r -> FnOk P f
theorem eCa_ok2 {o : Oper} {a : Act} {s : St} {wm : Nat} {Kt : Kv} {r : AV × Nat × Hp} {rec : Rec} (hrec : RecOk P rec) (hfn : RecFn P rec) (hi : Inv P s) (hw : wm <= s.n) {N : Fr} {T : Tm} (ht : TR P s.K s.ρ N T a) {f : Nat} {as : List O} {ys : Array Operand} {ts : Array TypeId} (ho : o.op = .call { callee := .value (.func f), args := ys, argTypes := ts }) (hm : oms as ys.toList = true)
  (h : eCa f as rec T wm s.n s.H Kt = some r) : OpW P o a s wm Kt r := by
 have hf : FnOk P f := by
  obtain ⟨q, g1, _⟩ := call_some (show call rec f (evs T as) wm s.n s.H Kt = some r from h)
  exact hfn _ _ _ _ _ _ g1
 exact eCa_ok hrec hi hw ht ho hm hf h
theorem eCd_ok2 {o : Oper} {a : Act} {s : St} {wm : Nat} {Kt : Kv} {r : AV × Nat × Hp} {rec : Rec} (hrec : RecOk P rec) (hfn : RecFn P rec) (hi : Inv P s) (hw : wm <= s.n) {N : Fr} {T : Tm} (ht : TR P s.K s.ρ N T a) {x : O} {as : List O} {y : Operand} {ys : Array Operand} {ts : Array TypeId} (ho : o.op = .call { callee := .value y, args := ys, argTypes := ts }) (hx : om x y = true) (hm : oms as ys.toList = true)
  (h : eCd x as rec T wm s.n s.H Kt = some r) : OpW P o a s wm Kt r := by
 refine eCd_ok hrec hi hw ht ho hx hm ?_ h
 intro f' fi ca hev
 have h' := h
 unfold eCd at h'
 rw [hev] at h'
 obtain ⟨q, g1, _⟩ := call_some h'
 exact hfn _ _ _ _ _ _ g1
structure XsOk (P : PX) (X : Nat × Nat × Nat) : Prop where
 l : XtOk P X.1 (Extern.Atomic.loadT (.int .i64))
 s : XtOk P X.2.1 Extern.Atomic.storeT
 c : XtOk P X.2.2 (Extern.Atomic.casT (.int .i64))
set_option maxHeartbeats 1000000 in
theorem mik_ok (hty : TyOk P) {X : Nat × Nat × Nat} (hX : XsOk P X) {rec : Rec} (hrec : RecOk P rec) (hfn : RecFn P rec) {N : Fr} : OpOk P N rec (fun i o => mik P X i o = true) := by
 intro i o a s T wm kt r hm hi hw ht h
 replace hm : mik P X i o = true := hm
 cases i <;> first | (cases hm; done) | (cases h; done) | skip
 · -- mv
  unfold mik at hm
  dsimp only at hm
  split at hm <;> first | (cases hm; done) | skip
  ·rename_i ho
   try simp only [Bool.and_eq_true] at hm
   exact eMv_ok (rec := rec) hi ht (.inl ho) hm h
  ·rename_i ho
   try simp only [Bool.and_eq_true] at hm
   exact eMv_ok (rec := rec) hi ht (.inr ho) hm h
 · -- pk
  unfold mik at hm
  dsimp only at hm
  split at hm <;> first | (cases hm; done) | skip
  ·rename_i ho
   try simp only [Bool.and_eq_true] at hm
   obtain ⟨⟨h1, h2⟩, h3⟩ := hm
   exact ePk_ok (rec := rec) hi ht ho h1 h2 h3 h
 · -- al
  unfold mik at hm
  dsimp only at hm
  split at hm <;> first | (cases hm; done) | skip
  ·rename_i ho
   try simp only [Bool.and_eq_true] at hm
   exact eAl_ok (rec := rec) (T := T) hi hw ho hm h
 · -- bx
  unfold mik at hm
  dsimp only at hm
  split at hm <;> first | (cases hm; done) | skip
  ·rename_i ho
   try simp only [Bool.and_eq_true] at hm
   exact eBx_ok (rec := rec) hi hw ht ho hm h
 · -- ld
  unfold mik at hm
  dsimp only at hm
  split at hm <;> first | (cases hm; done) | skip
  ·rename_i ho
   try simp only [Bool.and_eq_true] at hm
   exact eLd_ok (rec := rec) hty hi ht ho hm.1 hm.2 h
 · -- la
  unfold mik at hm
  dsimp only at hm
  split at hm <;> first | (cases hm; done) | skip
  ·rename_i ho
   try simp only [Bool.and_eq_true] at hm
   have := beq_true.1 hm.1
   subst this
   exact eLa_ok (rec := rec) hty hi ht ho hm.2 h
 · -- st
  unfold mik at hm
  dsimp only at hm
  split at hm <;> first | (cases hm; done) | skip
  ·rename_i ho
   try simp only [Bool.and_eq_true] at hm
   obtain ⟨⟨h1, h2⟩, h3⟩ := hm
   exact eSt_ok (rec := rec) hty hi ht ho h1 h2 h3 h
 · -- sa
  unfold mik at hm
  dsimp only at hm
  split at hm <;> first | (cases hm; done) | skip
  ·rename_i ho
   try simp only [Bool.and_eq_true] at hm
   obtain ⟨⟨h0, h1⟩, h2⟩ := hm
   have := beq_true.1 h0
   subst this
   exact eSa_ok (rec := rec) hty hi ht ho h1 h2 h
 · -- nc
  unfold mik at hm
  dsimp only at hm
  split at hm <;> first | (cases hm; done) | skip
  ·rename_i ho
   try simp only [Bool.and_eq_true] at hm
   exact eNc_ok (rec := rec) hi ht ho hm h
 · -- iadd
  unfold mik at hm
  dsimp only at hm
  split at hm <;> first | (cases hm; done) | skip
  ·rename_i ho
   try simp only [Bool.and_eq_true] at hm
   exact eIadd_ok (rec := rec) hi ht hm.1 hm.2 ho h
 · -- isub
  unfold mik at hm
  dsimp only at hm
  split at hm <;> first | (cases hm; done) | skip
  ·rename_i ho
   try simp only [Bool.and_eq_true] at hm
   exact eIsub_ok (rec := rec) hi ht hm.1 hm.2 ho h
 · -- imul
  unfold mik at hm
  dsimp only at hm
  split at hm <;> first | (cases hm; done) | skip
  ·rename_i ho
   try simp only [Bool.and_eq_true] at hm
   exact eImul_ok (rec := rec) hi ht hm.1 hm.2 ho h
 · -- iquo
  unfold mik at hm
  dsimp only at hm
  split at hm <;> first | (cases hm; done) | skip
  ·rename_i ho
   try simp only [Bool.and_eq_true] at hm
   exact eIquo_ok (rec := rec) hi ht hm.1 hm.2 ho h
 · -- irem
  unfold mik at hm
  dsimp only at hm
  split at hm <;> first | (cases hm; done) | skip
  ·rename_i ho
   try simp only [Bool.and_eq_true] at hm
   exact eIrem_ok (rec := rec) hi ht hm.1 hm.2 ho h
 · -- iand
  unfold mik at hm
  dsimp only at hm
  split at hm <;> first | (cases hm; done) | skip
  ·rename_i ho
   try simp only [Bool.and_eq_true] at hm
   exact eIand_ok (rec := rec) hi ht hm.1 hm.2 ho h
 · -- ior
  unfold mik at hm
  dsimp only at hm
  split at hm <;> first | (cases hm; done) | skip
  ·rename_i ho
   try simp only [Bool.and_eq_true] at hm
   exact eIor_ok (rec := rec) hi ht hm.1 hm.2 ho h
 · -- ixor
  unfold mik at hm
  dsimp only at hm
  split at hm <;> first | (cases hm; done) | skip
  ·rename_i ho
   try simp only [Bool.and_eq_true] at hm
   exact eIxor_ok (rec := rec) hi ht hm.1 hm.2 ho h
 · -- ishl
  unfold mik at hm
  dsimp only at hm
  split at hm <;> first | (cases hm; done) | skip
  ·rename_i ho
   try simp only [Bool.and_eq_true] at hm
   exact eIshl_ok (rec := rec) hi ht hm.1 hm.2 ho h
 · -- ishr
  unfold mik at hm
  dsimp only at hm
  split at hm <;> first | (cases hm; done) | skip
  ·rename_i ho
   try simp only [Bool.and_eq_true] at hm
   exact eIshr_ok (rec := rec) hi ht hm.1 hm.2 ho h
 · -- ilss
  unfold mik at hm
  dsimp only at hm
  split at hm <;> first | (cases hm; done) | skip
  ·rename_i ho
   try simp only [Bool.and_eq_true] at hm
   exact eIlss_ok (rec := rec) hi ht hm.1 hm.2 ho h
 · -- ileq
  unfold mik at hm
  dsimp only at hm
  split at hm <;> first | (cases hm; done) | skip
  ·rename_i ho
   try simp only [Bool.and_eq_true] at hm
   exact eIleq_ok (rec := rec) hi ht hm.1 hm.2 ho h
 · -- igtr
  unfold mik at hm
  dsimp only at hm
  split at hm <;> first | (cases hm; done) | skip
  ·rename_i ho
   try simp only [Bool.and_eq_true] at hm
   exact eIgtr_ok (rec := rec) hi ht hm.1 hm.2 ho h
 · -- igeq
  unfold mik at hm
  dsimp only at hm
  split at hm <;> first | (cases hm; done) | skip
  ·rename_i ho
   try simp only [Bool.and_eq_true] at hm
   exact eIgeq_ok (rec := rec) hi ht hm.1 hm.2 ho h
 · -- eq
  unfold mik at hm
  dsimp only at hm
  split at hm <;> first | (cases hm; done) | skip
  ·rename_i ho
   try simp only [Bool.and_eq_true] at hm
   obtain ⟨⟨h1, h2⟩, h3⟩ := hm
   exact eEq_ok (rec := rec) hty hi ht ho h1 h2 h3 h
 · -- ne
  unfold mik at hm
  dsimp only at hm
  split at hm <;> first | (cases hm; done) | skip
  ·rename_i ho
   try simp only [Bool.and_eq_true] at hm
   obtain ⟨⟨h1, h2⟩, h3⟩ := hm
   exact eNe_ok (rec := rec) hty hi ht ho h1 h2 h3 h
 · -- nt
  unfold mik at hm
  dsimp only at hm
  split at hm <;> first | (cases hm; done) | skip
  ·rename_i ho
   try simp only [Bool.and_eq_true] at hm
   exact eNt_ok (rec := rec) hi ht ho hm h
 · -- cv
  unfold mik at hm
  dsimp only at hm
  split at hm <;> first | (cases hm; done) | skip
  ·rename_i ho
   try simp only [Bool.and_eq_true] at hm
   obtain ⟨⟨h1, h2⟩, h3⟩ := hm
   exact eCv_ok (rec := rec) hi ht ho h1 h2 (intk_ok h3) h
 · -- fa
  unfold mik at hm
  dsimp only at hm
  split at hm <;> first | (cases hm; done) | skip
  ·rename_i ho
   try simp only [Bool.and_eq_true] at hm
   obtain ⟨⟨⟨h0, h1⟩, h2⟩, h3⟩ := hm
   have := beq_true.1 h0
   subst this
   have := beq_true.1 h1
   subst this
   obtain ⟨fd, g1, g2⟩ := fldk_ok h3
   exact eFa_ok (rec := rec) hty hi ht ho h2 g1 g2 h
 · -- fd
  unfold mik at hm
  dsimp only at hm
  split at hm <;> first | (cases hm; done) | skip
  ·rename_i ho
   try simp only [Bool.and_eq_true] at hm
   obtain ⟨⟨⟨h0, h1⟩, h2⟩, h3⟩ := hm
   have := beq_true.1 h0
   subst this
   have := beq_true.1 h1
   subst this
   obtain ⟨fd, g1, g2⟩ := fldk_ok h3
   exact eFd_ok (rec := rec) hty hi ht ho h2 g1 h
 · -- ia
  unfold mik at hm
  dsimp only at hm
  split at hm <;> first | (cases hm; done) | skip
  ·rename_i ho
   try simp only [Bool.and_eq_true] at hm
   obtain ⟨⟨h1, h2⟩, h3⟩ := hm
   exact eIa_ok (rec := rec) hty hi ht ho h1 h2 (idxk_ok h3) h
 · -- ix
  unfold mik at hm
  dsimp only at hm
  split at hm <;> first | (cases hm; done) | skip
  ·rename_i ho
   try simp only [Bool.and_eq_true] at hm
   obtain ⟨⟨h1, h2⟩, h3⟩ := hm
   exact eIx_ok (rec := rec) hty hi ht ho h1 h2 h3 h
 · -- ex
  unfold mik at hm
  dsimp only at hm
  split at hm <;> first | (cases hm; done) | skip
  ·rename_i ho
   try simp only [Bool.and_eq_true] at hm
   obtain ⟨h1, h2⟩ := hm
   have := beq_true.1 h2
   subst this
   exact eEx_ok (rec := rec) hi ht ho h1 h
 · -- bl
  unfold mik at hm
  dsimp only at hm
  split at hm <;> first | (cases hm; done) | skip
  ·rename_i ho
   try simp only [Bool.and_eq_true] at hm
   exact eBl_ok (rec := rec) hty hi ht ho hm.1 hm.2 h
 · -- bs
  unfold mik at hm
  dsimp only at hm
  split at hm <;> first | (cases hm; done) | skip
  ·rename_i ho
   try simp only [Bool.and_eq_true] at hm
   obtain ⟨⟨⟨h0, h1⟩, h2⟩, h3⟩ := hm
   have := beq_true.1 h0
   subst this
   exact eBs_ok (rec := rec) hty hi hw ht ho h1 h2 (Nat.le_of_ble_eq_true h3) h
 · -- ms
  unfold mik at hm
  dsimp only at hm
  split at hm <;> first | (cases hm; done) | skip
  ·rename_i ho
   try simp only [Bool.and_eq_true] at hm
   obtain ⟨⟨⟨h0, h1⟩, h2⟩, h3⟩ := hm
   have := oeq_ok h2
   subst this
   exact eMs_ok (rec := rec) hty hi hw ht ho h0 h3 h
 · -- mm
  unfold mik at hm
  dsimp only at hm
  split at hm <;> first | (cases hm; done) | skip
  ·rename_i ho
   try simp only [Bool.and_eq_true] at hm
   have hq := Option.isNone_iff_eq_none.1 hm
   subst hq
   exact eMm_ok (rec := rec) (T := T) hi hw ho h
 · -- mu
  unfold mik at hm
  dsimp only at hm
  split at hm <;> first | (cases hm; done) | skip
  ·rename_i ho
   try simp only [Bool.and_eq_true] at hm
   obtain ⟨⟨⟨h0, h1⟩, h2⟩, h3⟩ := hm
   exact eMu_ok (rec := rec) hi ht (.inl ho) h0 h1 h2 h3 h
  ·rename_i ho
   try simp only [Bool.and_eq_true] at hm
   obtain ⟨⟨⟨h0, h1⟩, h2⟩, h3⟩ := hm
   exact eMu_ok (rec := rec) hi ht (.inr ho) h0 h1 h2 h3 h
 · -- lu
  unfold mik at hm
  dsimp only at hm
  split at hm <;> first | (cases hm; done) | skip
  ·rename_i ho
   try simp only [Bool.and_eq_true] at hm
   obtain ⟨⟨⟨⟨h0, h1⟩, h2⟩, h3⟩, h4⟩ := hm
   obtain ⟨el, g1, g2⟩ := mapz_ok h3
   have := eq_of_beq h4
   subst this
   exact eLu_ok (rec := rec) hi ht ho h0 h1 h2 g1 g2 h
 · -- mf
  unfold mik at hm
  dsimp only at hm
  split at hm <;> first | (cases hm; done) | skip
  ·rename_i ho
   try simp only [Bool.and_eq_true] at hm
   obtain ⟨⟨h0, h1⟩, h2⟩ := hm
   have := beq_true.1 h0
   subst this
   exact eMf_ok (rec := rec) hi ht ho h1 h2 h
 · -- sl
  unfold mik at hm
  dsimp only at hm
  split at hm <;> first | (cases hm; done) | skip
  ·rename_i ho
   try simp only [Bool.and_eq_true] at hm
   obtain ⟨⟨⟨⟨h0, h1⟩, h2⟩, h3⟩, h4⟩ := hm
   exact eSl_ok (rec := rec) hty hi ht ho h0 h1 h2 h3 h4 h
 · -- ln
  unfold mik at hm
  dsimp only at hm
  split at hm <;> first | (cases hm; done) | skip
  ·rename_i ho
   try simp only [Bool.and_eq_true] at hm
   obtain ⟨h1, h2⟩ := hm
   obtain ⟨y, rfl, g1⟩ := oms1 h1
   obtain ⟨t, rfl, g2⟩ := tys1 h2
   exact eLn_ok (rec := rec) hi ht ho g1 g2 h
 · -- cp
  unfold mik at hm
  dsimp only at hm
  split at hm <;> first | (cases hm; done) | skip
  ·rename_i ho
   try simp only [Bool.and_eq_true] at hm
   obtain ⟨h1, h2⟩ := hm
   obtain ⟨y, rfl, g1⟩ := oms1 h1
   obtain ⟨t, rfl, g2⟩ := tys1 h2
   exact eCp_ok (rec := rec) hi ht ho g1 g2 h
 · -- mi
  unfold mik at hm
  dsimp only at hm
  split at hm <;> first | (cases hm; done) | skip
  ·rename_i ho
   try simp only [Bool.and_eq_true] at hm
   obtain ⟨y, y2, rfl, g1, g2⟩ := oms2 hm
   exact eMi_ok (rec := rec) hi ht ho g1 g2 h
 · -- ma
  unfold mik at hm
  dsimp only at hm
  split at hm <;> first | (cases hm; done) | skip
  ·rename_i ho
   try simp only [Bool.and_eq_true] at hm
   obtain ⟨y, y2, rfl, g1, g2⟩ := oms2 hm
   exact eMa_ok (rec := rec) hi ht ho g1 g2 h
 · -- ap
  unfold mik at hm
  dsimp only at hm
  split at hm <;> first | (cases hm; done) | skip
  ·rename_i ho
   try simp only [Bool.and_eq_true] at hm
   obtain ⟨h1, h2⟩ := hm
   obtain ⟨y, y2, rfl, g1, g2⟩ := oms2 h1
   obtain ⟨t, u, rfl, g3⟩ := tys2 h2
   exact eAp_ok (rec := rec) hty hi hw ht ho g1 g2 g3 h
 · -- az
  unfold mik at hm
  dsimp only at hm
  split at hm <;> first | (cases hm; done) | skip
  ·rename_i ho
   try simp only [Bool.and_eq_true] at hm
   obtain ⟨h1, h2⟩ := hm
   obtain ⟨y, y2, rfl, g1, g2⟩ := oms2 h1
   obtain ⟨t, u, rfl, g3⟩ := tys2 h2
   exact eAz_ok (rec := rec) hty hi hw ht ho g1 g2 g3 h
 · -- co
  unfold mik at hm
  dsimp only at hm
  split at hm <;> first | (cases hm; done) | skip
  ·rename_i ho
   try simp only [Bool.and_eq_true] at hm
   obtain ⟨h1, h2⟩ := hm
   obtain ⟨y, y2, rfl, g1, g2⟩ := oms2 h1
   obtain ⟨t, u, rfl, g3⟩ := tys2 (f := fun t _ => cok' P _ t) h2
   exact eCo_ok (rec := rec) hty hi ht ho g1 g2 g3 h
 · -- cl
  unfold mik at hm
  dsimp only at hm
  split at hm <;> first | (cases hm; done) | skip
  ·rename_i ho
   try simp only [Bool.and_eq_true] at hm
   obtain ⟨h1, h2⟩ := hm
   obtain ⟨y, rfl, g1⟩ := oms1 h1
   obtain ⟨t, rfl, g2⟩ := tys1 h2
   exact eCl_ok (rec := rec) hty hi ht ho g1 g2 h
 · -- ca
  unfold mik at hm
  dsimp only at hm
  split at hm <;> first | (cases hm; done) | skip
  ·rename_i ho
   try simp only [Bool.and_eq_true] at hm
   obtain ⟨h0, h1⟩ := hm
   have := beq_true.1 h0
   subst this
   exact eCa_ok2 hrec hfn hi hw ht ho h1 h
 · -- cd
  unfold mik at hm
  dsimp only at hm
  split at hm <;> first | (cases hm; done) | skip
  ·rename_i ho
   try simp only [Bool.and_eq_true] at hm
   obtain ⟨h0, h1⟩ := hm
   exact eCd_ok2 hrec hfn hi hw ht ho h0 h1 h
 · -- bb
  unfold mik at hm
  dsimp only at hm
  split at hm <;> first | (cases hm; done) | skip
  ·rename_i ho
   try simp only [Bool.and_eq_true] at hm
   obtain ⟨h1, h2⟩ := hm
   obtain ⟨e, g1, g2, g3⟩ := bbk_ok h2
   exact eBb_ok (rec := rec) hty hi ht ho h1 g1 g2 g3 h
 · -- cs
  unfold mik at hm
  dsimp only at hm
  split at hm <;> first | (cases hm; done) | skip
  ·rename_i ho
   try simp only [Bool.and_eq_true] at hm
   obtain ⟨h0, h1⟩ := hm
   have := beq_true.1 h0
   subst this
   obtain ⟨y, y2, y3, rfl, g1, g2, g3⟩ := oms3 h1
   exact eCs_ok (rec := rec) hty hi ht ho g1 g2 g3 hX.c h
 · -- lx
  unfold mik at hm
  dsimp only at hm
  split at hm <;> first | (cases hm; done) | skip
  ·rename_i ho
   try simp only [Bool.and_eq_true] at hm
   obtain ⟨h0, h1⟩ := hm
   have := beq_true.1 h0
   subst this
   obtain ⟨y, rfl, g1⟩ := oms1 h1
   exact eLx_ok (rec := rec) hty hi ht ho g1 hX.l h
 · -- sx
  unfold mik at hm
  dsimp only at hm
  split at hm <;> first | (cases hm; done) | skip
  ·rename_i ho
   try simp only [Bool.and_eq_true] at hm
   obtain ⟨h0, h1⟩ := hm
   have := beq_true.1 h0
   subst this
   obtain ⟨y, y2, rfl, g1, g2⟩ := oms2 h1
   exact eSx_ok (rec := rec) hty hi ht ho g1 g2 hX.s h
end
end Go.Proofs.YtgaghaggiblabaaGreatDoor.Ev
namespace Go.Proofs.YtgaghaggiblabaaGreatDoor.Ev
open Go.RowKit
section
variable (M : I -> Oper -> Bool) (N : Nat)
noncomputable def tb (m i : Nat) : Bool := Nat.testBit m i
noncomputable def msk (l : List Nat) : Nat := List.rec 0 (fun i _ ih => Nat.lor (Nat.shiftLeft 1 i) ih) l
noncomputable def dsto (a b : Option Nat) : Bool := match a with | none => (match b with | none => true | _ => false) | some x => (match b with | some y => Nat.beq x y | none => false)
noncomputable def gdk (ops : Array Oper) (o : Oper) (g : Option (Nat × Bool)) : Bool := match g with
 | none => (match o.guard with | none => true | _ => false)
 | some q => (match o.guard with | some r => and' (Bool.rec (not' q.2) q.2 r.2) (and' (dsto ((ops[r.1]?).bind (·.dst)) (some q.1)) (Nat.ble (Nat.add q.1 1) N)) | none => false)
noncomputable def dlt (d : Option Nat) : Bool := match d with | none => true | some x => Nat.ble (Nat.add x 1) N
noncomputable def gok (ops : Array Oper) (g : G) (o : Oper) : Bool := match g with
 | .o d i => and' (dsto o.dst (some d)) (and' (dlt N (some d)) (and' (M i o) (gdk N ops o none)))
 | .n i => and' (dsto o.dst none) (and' (M i o) (gdk N ops o none))
 | .g t w d i => and' (dsto o.dst (some d)) (and' (dlt N (some d)) (and' (M i o) (gdk N ops o (some (t, w)))))
 | .gn t w i => and' (dsto o.dst none) (and' (M i o) (gdk N ops o (some (t, w))))
 | .z _ => false
noncomputable def gsk (ops : Array Oper) : List G -> List Oper -> Bool
 | [], os => (match os with | [] => true | _ => false)
 | g :: is, os => (match g with
  | .z _ => gsk ops is os
  | g => (match os with | o :: os => and' (gok M N ops g o) (gsk ops is os) | [] => false))
noncomputable def outk (ds outs : List Nat) (vs : Nat) : Bool := and' (List.rec true (fun i _ ih => and' (Bool.rec (not' (tb vs i)) true (tb (msk outs) i)) ih) ds) (List.rec true (fun i _ ih => and' (tb vs i) ih) outs)
noncomputable def dok (ops : Array Oper) (d : D) (o : Oper) : Bool := and' (dsto o.dst (ddst d)) (and' (dlt N (ddst d)) (and' (M d.ins o) (gdk N ops o (dgd d))))
noncomputable def dsk (ops : Array Oper) : List D -> List Oper -> Bool
 | [], os => (match os with | [] => true | _ => false)
 | d :: is, os => (match os with | o :: os => and' (dok M N ops d o) (dsk ops is os) | [] => false)
end
noncomputable def nthm (l : List Nat) : Nat -> Nat := List.rec (fun _ => 0) (fun a _ ih n => Bool.rec (ih (Nat.sub n 1)) a (Nat.beq n 0)) l
noncomputable def ancm (acc : List Nat) (j : Nat) (es : List Edge) : Nat := List.rec 0 (fun e _ ih => Bool.rec ih (Nat.lor (Nat.lor (Nat.shiftLeft 1 e.on) (nthm acc (Nat.sub (Nat.sub j 1) e.on))) ih) (Region.binds .any e)) es
noncomputable def backk (j : Nat) (es : List Edge) : Bool := List.rec true (fun e _ ih => and' (Bool.rec true (Nat.ble (Nat.add e.on 1) j) (Region.binds .any e)) ih) es
noncomputable def oeqO (x y : O) : Bool := match x with | .t i => (match y with | .t j => Nat.beq i j | _ => false) | _ => false
noncomputable def memO (z : O) (l : List O) : Bool := List.rec false (fun y _ ih => Bool.rec ih true (oeqO z y)) l
noncomputable def memN (u : Nat) (l : List Nat) : Bool := List.rec false (fun y _ ih => Bool.rec ih true (Nat.beq u y)) l
noncomputable def subO (l m : List O) : Bool := List.rec true (fun y _ ih => and' (memO y m) ih) l
noncomputable def dno (d : Option Nat) (m : Nat) : Bool := match d with | none => true | some t => not' (tb m t)
noncomputable def dne (d e : Option Nat) : Bool := match d with | none => true | some t => (match e with | none => true | some u => not' (Nat.beq t u))
noncomputable def okpk (u : Nat) (x y : D) (uy : Nat) : Bool := and' (dno (ddst x) uy) (and' (dne (ddst x) (ddst y)) (and'
 (Bool.rec true (Bool.rec (Bool.rec (and' (and' (Nat.beq x.see 2) (Nat.beq y.see 2)) (subO x.ps y.hd)) true (Nat.beq y.see 0)) true (Nat.beq x.see 0)) (Bool.rec y.wr true x.wr))
 (Bool.rec true (Bool.rec true (memN u y.un) (Nat.beq y.see 1)) x.al)))
noncomputable def pairk (y : D) (uy am j : Nat) (acc : List (D × Nat × Nat)) : Nat -> Bool := List.rec (fun _ => true) (fun p _ ih u => and' (and' (dno (ddst y) p.2.2) (Bool.rec (and' (dno (ddst y) p.2.1) (okpk u p.1 y uy)) true (tb am (Nat.sub (Nat.sub j 1) u)))) (ih (Nat.add u 1))) acc
noncomputable def psok (d : D) : Bool := List.rec true (fun z _ ih => and' (match z with | .t _ => true | .c _ => false) ih) d.ps
noncomputable def dstk1 (rec : Nat -> List (D × Nat × Nat) -> List Nat -> Bool) (j : Nat) (acc : List (D × Nat × Nat)) (ams : List Nat) (d : D) (es : List Edge) (ud pd am : Nat) : Bool := and' (backk j es) (and' (dno (ddst d) pd) (and' (psok d) (and' (pairk d ud am j acc 0) (rec (Nat.add j 1) ((d, ud, pd) :: acc) (am :: ams)))))
noncomputable def dstk : List D -> List Oper -> Nat -> List (D × Nat × Nat) -> List Nat -> Bool
 | [], os, _, _, _ => (match os with | [] => true | _ => false)
 | d :: is, os, j, acc, ams => (match os with | o :: os => dstk1 (dstk is os) j acc ams d o.after.toList (msk d.us) (msk (uOs d.ps)) (ancm ams j o.after.toList) | [] => false)
section
variable (M : I -> Oper -> Bool) (N vs : Nat)
noncomputable def rgk (is : List G) (outs : List Nat) (ops : Array Oper) : Bool := and' (gsk M N ops is ops.toList) (outk (dsts is) outs vs)
noncomputable def drk (is : List D) (outs : List Nat) (ops : Array Oper) : Bool := and' (dsk M N ops is ops.toList) (and' (dstk is ops.toList 0 [] []) (outk (ddsts is) outs vs))
noncomputable def mck : Code -> C -> Bool
 | .skip, c => (match c with | .skip => true | _ => false)
 | .region _ ops dr, c => (match c with | .rg is outs => and' (not' dr) (rgk M N vs is outs ops) | .dr is outs => and' dr (drk M N vs is outs ops) | _ => false)
 | .seq x y, c => (match c with | .seq a b => and' (mck x a) (mck y b) | _ => false)
 | .cond o x y, c => (match c with | .cond p a b => and' (om p o) (and' (mck x a) (mck y b)) | _ => false)
 | .block id y, c => (match c with | .block i b => and' (Nat.beq i id) (mck y b) | _ => false)
 | .loop y, c => (match c with | .loop b => mck y b | _ => false)
 | .exit id, c => (match c with | .exit i => Nat.beq i id | _ => false)
 | .ret, c => (match c with | .ret => true | _ => false)
 | _, _ => false
noncomputable def parok (np : Nat) : Bool := Nat.rec true (fun i ih => and' (tb vs i) ih) np
noncomputable def rvk (one : TypeId -> Bool) (r : Rv) (v : ResultVar) : Bool := match r with
 | .t i => (match v with | .tmp j => Nat.beq i j | _ => false)
 | .s i => (match v with | .cell j t => and' (Nat.beq i j) (one t) | _ => false)
 | .a t i => (match v with | .cell j u => and' (Nat.beq i j) (Nat.beq t u) | _ => false)
noncomputable def rvks (one : TypeId -> Bool) : List Rv -> List ResultVar -> Bool
 | [], vs => (match vs with | [] => true | _ => false)
 | r :: rs, vs => (match vs with | v :: vs => and' (rvk one r v) (rvks one rs vs) | [] => false)
noncomputable def fok (one : TypeId -> Bool) (fn : Func) (fd : FD) : Bool := match fn.body with
 | some c => and' (Nat.ble fd.np fn.ntmps) (and' (parok vs fd.np) (and' (rvks one fd.rs fn.results.toList) (mck M fn.ntmps vs c fd.code)))
 | none => false
end
section
variable {P : PX} {M : I -> Oper -> Bool} {N vs : Nat} {ops : Array Oper}
theorem and'_ok {a b : Bool} (h : and' a b = true) : a = true /\ b = true := by rw [and'_eq, Bool.and_eq_true] at h; exact h
theorem tb_msk {i : Nat} : ∀ {l : List Nat}, tb (msk l) i = true ↔ i ∈ l
 | [] => by
  show Nat.testBit 0 i = true ↔ _
  simp
 | a :: l => by
  show Nat.testBit (Nat.lor (Nat.shiftLeft 1 a) (msk l)) i = true ↔ _
  have e : Nat.lor (Nat.shiftLeft 1 a) (msk l) = (1 <<< a) ||| msk l := rfl
  have ih := tb_msk (i := i) (l := l)
  have h1 : Nat.testBit (1 <<< a) i = decide (a = i) := by rw [Nat.shiftLeft_eq, Nat.one_mul, Nat.testBit_two_pow]
  rw [e, Nat.testBit_or, Bool.or_eq_true, List.mem_cons, h1, decide_eq_true_iff]
  exact or_congr eq_comm ih
theorem dsto_ok {a b : Option Nat} (h : dsto a b = true) : a = b := by
 unfold dsto at h
 split at h <;> split at h <;> first | rfl | (cases h; done) | (rw [beq_true.1 h])
theorem dlt_ok {d : Option Nat} (h : dlt N d = true) : ∀ x, d = some x -> x < N := by
 rintro x rfl
 exact Nat.le_of_ble_eq_true h
theorem gdk_none {o : Oper} (h : gdk N ops o none = true) : o.guard = none := by
 unfold gdk at h
 dsimp only at h
 split at h
 ·assumption
 ·cases h
theorem gdk_some {o : Oper} {q : Nat × Bool} (h : gdk N ops o (some q) = true) : ∃ j, o.guard = some (j, q.2) /\ (ops[j]?).bind (·.dst) = some q.1 /\ q.1 < N := by
 unfold gdk at h
 dsimp only at h
 split at h
 ·rename_i r hr
  obtain ⟨h1, h2⟩ := and'_ok h
  obtain ⟨h2, h3⟩ := and'_ok h2
  refine ⟨r.1, ?_, dsto_ok h2, Nat.le_of_ble_eq_true h3⟩
  have : r.2 = q.2 := by
   revert h1
   generalize q.2 = x
   generalize r.2 = y
   cases x <;> cases y <;> simp [not']
  rw [hr, <- this]
 ·cases h
theorem gok_ok {mi : I -> Oper -> Prop} (hM : ∀ i o, M i o = true -> mi i o) {g : G} {o : Oper} (h : gok M N ops g o = true) : GOk P N mi ops g o := by
 cases g with
 | o d i =>
  obtain ⟨h1, h2⟩ := and'_ok h
  obtain ⟨h2, h3⟩ := and'_ok h2
  obtain ⟨h3, h4⟩ := and'_ok h3
  exact ⟨dsto_ok h1, dlt_ok h2, fun i' e => by cases e; exact hM _ _ h3, gdk_none h4⟩
 | n i =>
  obtain ⟨h1, h2⟩ := and'_ok h
  obtain ⟨h2, h3⟩ := and'_ok h2
  exact ⟨dsto_ok h1, fun d e => (by cases e), fun i' e => by cases e; exact hM _ _ h2, gdk_none h3⟩
 | g t w d i =>
  obtain ⟨h1, h2⟩ := and'_ok h
  obtain ⟨h2, h3⟩ := and'_ok h2
  obtain ⟨h3, h4⟩ := and'_ok h3
  exact ⟨dsto_ok h1, dlt_ok h2, fun i' e => by cases e; exact hM _ _ h3, gdk_some h4⟩
 | gn t w i =>
  obtain ⟨h1, h2⟩ := and'_ok h
  obtain ⟨h2, h3⟩ := and'_ok h2
  exact ⟨dsto_ok h1, fun d e => (by cases e), fun i' e => by cases e; exact hM _ _ h2, gdk_some h3⟩
 | z d => cases h
theorem gsk_ok {mi : I -> Oper -> Prop} (hM : ∀ i o, M i o = true -> mi i o) : ∀ {is : List G} {os : List Oper} {k : Nat}, (∀ i o, os[i]? = some o -> ops[k + i]? = some o) -> gsk M N ops is os = true ->
  GS (fun g j => ∃ o, ops[j]? = some o /\ GOk P N mi ops g o) is (List.range' k os.length)
 | [], os, k, _, h => by
  cases os with
  | nil => exact .nil
  | cons o os => cases h
 | g :: is, os, k, ho, h => by
  have gen : (∀ d, g ≠ .z d) -> (match (generalizing := false) os with | o :: os => and' (gok M N ops g o) (gsk M N ops is os) | [] => false) = true -> GS (fun g j => ∃ o, ops[j]? = some o /\ GOk P N mi ops g o) (g :: is) (List.range' k os.length) := by
   intro hz h
   cases os with
   | nil => cases h
   | cons o os =>
    obtain ⟨h1, h2⟩ := and'_ok h
    rw [List.length_cons, List.range'_succ]
    refine .cons ⟨o, by simpa using ho 0 o rfl, gok_ok hM h1⟩ (gsk_ok hM (fun i o' hi => ?_) h2)
    have := ho (i + 1) o' (by simpa using hi)
    rw [show k + 1 + i = k + (i + 1) by omega]
    exact this
  cases g with
  | z d => exact .z (gsk_ok hM ho h)
  | o d i => exact gen (by simp) h
  | n i => exact gen (by simp) h
  | g t w d i => exact gen (by simp) h
  | gn t w i => exact gen (by simp) h
theorem lall {p : Nat -> Bool} : ∀ {l : List Nat}, (List.rec true (fun i _ ih => and' (p i) ih) l : Bool) = true -> ∀ i, i ∈ l -> p i = true
 | [], _, i, hi => by cases hi
 | a :: l, h, i, hi => by
  obtain ⟨h1, h2⟩ := and'_ok h
  rcases List.mem_cons.1 hi with rfl | hi
  ·exact h1
  ·exact lall h2 i hi
theorem outk_ok {ds outs : List Nat} (h : outk ds outs vs = true) : (∀ i, i ∈ ds -> i ∈ outs \/ ¬ tb vs i = true) /\ ∀ i, i ∈ outs -> tb vs i = true := by
 obtain ⟨h1, h2⟩ := and'_ok h
 refine ⟨fun i hi => ?_, lall h2⟩
 have := lall (p := fun i => Bool.rec (not' (tb vs i)) true (tb (msk outs) i)) h1 i hi
 cases e : tb (msk outs) i with
 | true => exact .inl (tb_msk.1 e)
 | false =>
  right
  intro e'
  have h3 : (Bool.rec (not' (tb vs i)) true (tb (msk outs) i) : Bool) = true := this
  rw [e, e'] at h3
  cases h3
theorem dok_ok {mi : I -> Oper -> Prop} (hM : ∀ i o, M i o = true -> mi i o) {d : D} {o : Oper} (h : dok M N ops d o = true) : DOk P N mi ops d o := by
 obtain ⟨h1, h2⟩ := and'_ok h
 obtain ⟨h2, h3⟩ := and'_ok h2
 obtain ⟨h3, h4⟩ := and'_ok h3
 refine ⟨dsto_ok h1, dlt_ok h2, hM _ _ h3, ?_⟩
 cases hg : dgd d with
 | none => rw [hg] at h4; exact gdk_none h4
 | some q => rw [hg] at h4; exact gdk_some h4
theorem dsk_ok {mi : I -> Oper -> Prop} (hM : ∀ i o, M i o = true -> mi i o) : ∀ {is : List D} {os : List Oper}, dsk M N ops is os = true -> All2 (DOk P N mi ops) is os
 | [], os, h => by
  cases os with
  | nil => exact .nil
  | cons o os => cases h
 | d :: is, os, h => by
  cases os with
  | nil => cases h
  | cons o os =>
   obtain ⟨h1, h2⟩ := and'_ok h
   exact .cons (dok_ok hM h1) (dsk_ok hM h2)
theorem nthm_eq (l : List Nat) (i : Nat) : nthm l i = (l[i]?).getD 0 := by
 induction l generalizing i with
 | nil => rfl
 | cons p L ih =>
  show (Bool.rec (nthm L (Nat.sub i 1)) p (Nat.beq i 0) : Nat) = _
  rw [brec_beq]
  cases i with
  | zero => simp
  | succ i => rw [if_neg (by omega), ih]; simp
def AmOk (ops : Array Oper) (ams : List Nat) (j : Nat) : Prop := ams.length = j /\ ∀ i, i < j -> ∀ k, tb (nthm ams (j - 1 - i)) k = true -> Anc ops k i
theorem ancm_ok {ams : List Nat} {j : Nat} {o : Oper} (ha : AmOk ops ams j) (ho : ops[j]? = some o) : ∀ {es : List Edge}, (∀ e, e ∈ es -> e ∈ o.after) -> backk j es = true -> ∀ k, tb (ancm ams j es) k = true -> Anc ops k j
 | [], _, _, k, h => by
  have : Nat.testBit 0 k = true := h
  simp at this
 | e :: es, he, hb, k, h => by
  obtain ⟨hb1, hb2⟩ := and'_ok hb
  have ih := ancm_ok ha ho (es := es) (fun e' h' => he e' (List.mem_cons_of_mem _ h')) hb2 k
  replace h : tb (Bool.rec (ancm ams j es) (Nat.lor (Nat.lor (Nat.shiftLeft 1 e.on) (nthm ams (Nat.sub (Nat.sub j 1) e.on))) (ancm ams j es)) (Region.binds .any e)) k = true := h
  cases hbd : Region.binds .any e with
  | false => rw [hbd] at h; exact ih h
  | true =>
   rw [hbd] at h hb1
   have hlt : e.on < j := Nat.le_of_ble_eq_true hb1
   have hone : Anc ops e.on j := .one ho (he e List.mem_cons_self) hbd rfl
   have h' : Nat.testBit (((1 <<< e.on) ||| nthm ams (j - 1 - e.on)) ||| ancm ams j es) k = true := h
   rw [Nat.testBit_or, Nat.testBit_or, Bool.or_eq_true, Bool.or_eq_true] at h'
   rcases h' with (h' | h') | h'
   ·rw [Nat.shiftLeft_eq, Nat.one_mul, Nat.testBit_two_pow, decide_eq_true_iff] at h'
    rw [<- h']
    exact hone
   ·exact .step (ha.2 e.on hlt k h') hone
   ·exact ih h'
theorem backk_ok {j : Nat} : ∀ {es : List Edge}, backk j es = true -> ∀ e, e ∈ es -> Region.binds .any e = true -> e.on < j
 | [], _, e, he, _ => by cases he
 | x :: es, h, e, he, hb => by
  obtain ⟨h1, h2⟩ := and'_ok h
  rcases List.mem_cons.1 he with rfl | he
  ·rw [hb] at h1
   exact Nat.le_of_ble_eq_true h1
  ·exact backk_ok h2 e he hb
theorem memO_ok {z : O} : ∀ {l : List O}, memO z l = true -> z ∈ l
 | [], h => by cases h
 | y :: l, h => by
  replace h : (Bool.rec (memO z l) true (oeqO z y) : Bool) = true := h
  cases e : oeqO z y with
  | true =>
   have : z = y := by
    unfold oeqO at e
    split at e <;> first | (cases e; done) | skip
    split at e <;> first | (cases e; done) | skip
    rw [beq_true.1 e]
   rw [this]
   exact List.mem_cons_self
  | false =>
   rw [e] at h
   exact List.mem_cons_of_mem _ (memO_ok h)
theorem memN_ok {z : Nat} : ∀ {l : List Nat}, memN z l = true -> z ∈ l
 | [], h => by cases h
 | y :: l, h => by
  replace h : (Bool.rec (memN z l) true (Nat.beq z y) : Bool) = true := h
  cases e : Nat.beq z y with
  | true => rw [beq_true.1 e]; exact List.mem_cons_self
  | false =>
   rw [e] at h
   exact List.mem_cons_of_mem _ (memN_ok h)
theorem subO_ok {m : List O} : ∀ {l : List O}, subO l m = true -> ∀ z, z ∈ l -> z ∈ m
 | [], _, z, hz => by cases hz
 | y :: l, h, z, hz => by
  obtain ⟨h1, h2⟩ := and'_ok h
  rcases List.mem_cons.1 hz with rfl | hz
  ·exact memO_ok h1
  ·exact subO_ok h2 z hz
theorem not'_ok {b : Bool} (h : not' b = true) : b = false := by cases b <;> first | rfl | cases h
theorem dno_ok {d : Option Nat} {l : List Nat} (h : dno d (msk l) = true) : ∀ t, d = some t -> t ∉ l := by
 rintro t rfl hm
 have h1 := not'_ok (show not' (tb (msk l) t) = true from h)
 rw [tb_msk.2 hm] at h1
 cases h1
theorem okpk_ok {u : Nat} {x y : D} (h0 : dno (ddst y) (msk x.us) = true) (h : okpk u x y (msk y.us) = true) : Okp u x y := by
 obtain ⟨h1, h2⟩ := and'_ok h
 obtain ⟨h2, h3⟩ := and'_ok h2
 obtain ⟨h3, h4⟩ := and'_ok h3
 refine ⟨dno_ok h1, ?_, dno_ok h0, ?_, ?_⟩
 ·intro t e e'
  rw [e, e'] at h2
  have h2 := not'_ok (show not' (Nat.beq t t) = true from h2)
  rw [Nat.beq_refl] at h2
  cases h2
 ·intro hw
  have hw' : (Bool.rec y.wr true x.wr : Bool) = true := by
   cases e : x.wr with
   | true => rfl
   | false =>
    rcases hw with hw | hw
    ·rw [e] at hw; cases hw
    ·exact hw
  rw [hw'] at h3
  replace h3 : (Bool.rec (Bool.rec (and' (and' (Nat.beq x.see 2) (Nat.beq y.see 2)) (subO x.ps y.hd)) true (Nat.beq y.see 0)) true (Nat.beq x.see 0) : Bool) = true := h3
  cases e1 : Nat.beq x.see 0 with
  | true => exact .inl (beq_true.1 e1)
  | false =>
   rw [e1] at h3
   replace h3 : (Bool.rec (and' (and' (Nat.beq x.see 2) (Nat.beq y.see 2)) (subO x.ps y.hd)) true (Nat.beq y.see 0) : Bool) = true := h3
   cases e2 : Nat.beq y.see 0 with
   | true => exact .inr (.inl (beq_true.1 e2))
   | false =>
    rw [e2] at h3
    obtain ⟨h5, h6⟩ := and'_ok h3
    obtain ⟨h5, h7⟩ := and'_ok h5
    exact .inr (.inr ⟨beq_true.1 h5, beq_true.1 h7, subO_ok h6⟩)
 ·intro ha hs
  rw [ha] at h4
  replace h4 : (Bool.rec true (memN u y.un) (Nat.beq y.see 1) : Bool) = true := h4
  rw [beq_true.2 hs] at h4
  exact memN_ok h4
theorem pairk_ok {y : D} {am j : Nat} : ∀ {acc : List (D × Nat × Nat)} {u : Nat}, pairk y (msk y.us) am j acc u = true -> (∀ p, p ∈ acc -> p.2.1 = msk p.1.us /\ p.2.2 = msk (uOs p.1.ps)) ->
  ∀ i p, acc[i]? = some p -> (∀ t, ddst y = some t -> t ∉ uOs p.1.ps) /\ (tb am (j - 1 - (u + i)) = true \/ Okp (u + i) p.1 y)
 | [], u, _, _, i, p, hp => by simp at hp
 | q :: acc, u, h, hu, i, p, hp => by
  obtain ⟨h1, h2⟩ := and'_ok h
  cases i with
  | zero =>
   simp at hp
   subst hp
   obtain ⟨h3, h4⟩ := and'_ok h1
   rw [(hu q List.mem_cons_self).2] at h3
   refine ⟨dno_ok h3, ?_⟩
   rw [Nat.add_zero]
   by_cases e : tb am (Nat.sub (Nat.sub j 1) u) = true
   ·exact .inl e
   ·rw [Bool.not_eq_true] at e
    rw [e] at h4
    obtain ⟨h5, h6⟩ := and'_ok h4
    rw [(hu q List.mem_cons_self).1] at h5
    exact .inr (okpk_ok h5 h6)
  | succ i =>
   have := pairk_ok (u := u + 1) h2 (fun p hp => hu p (List.mem_cons_of_mem _ hp)) i p (by simpa using hp)
   rw [show u + (i + 1) = u + 1 + i by omega]
   exact this
theorem psok_ok {d : D} (h : psok d = true) : ∀ z v, z ∈ d.ps -> z = .c v -> False := by
 unfold psok at h
 generalize d.ps = l at h
 induction l with
 | nil => intro z v hz; cases hz
 | cons y l ih =>
  obtain ⟨h1, h2⟩ := and'_ok h
  intro z v hz e
  rcases List.mem_cons.1 hz with rfl | hz
  ·subst e; cases h1
  ·exact ih h2 z v hz e
structure DS1 (ops : Array Oper) (is : List D) (j : Nat) (d : D) : Prop where
 back : ∀ o e, ops[j]? = some o -> e ∈ o.after -> Region.binds .any e = true -> e.on < j
 self : ∀ t, ddst d = some t -> t ∉ uOs d.ps
 psk : ∀ z v, z ∈ d.ps -> z = .c v -> False
 pair : ∀ i x, i < j -> is[i]? = some x -> (∀ t, ddst d = some t -> t ∉ uOs x.ps) /\ (Anc ops i j \/ Okp (j - 1 - i) x d)
theorem dstk_ok {all : List D} : ∀ {is : List D} {os : List Oper} {j : Nat} {acc : List (D × Nat × Nat)} {ams : List Nat}, (∀ i o, os[i]? = some o -> ops[j + i]? = some o) -> (∀ i d, is[i]? = some d -> all[j + i]? = some d) -> AmOk ops ams j ->
  (∀ i p, acc[i]? = some p -> i < j /\ all[j - 1 - i]? = some p.1 /\ p.2.1 = msk p.1.us /\ p.2.2 = msk (uOs p.1.ps)) -> acc.length = j -> dstk is os j acc ams = true -> is.length = os.length /\ ∀ i d, is[i]? = some d -> DS1 ops all (j + i) d
 | [], os, j, acc, ams, _, _, _, _, _, h => by
  cases os with
  | nil => exact ⟨rfl, fun i d hd => by simp at hd⟩
  | cons o os => cases h
 | d :: is, os, j, acc, ams, ho, hd, ha, hac, hal, h => by
  cases os with
  | nil => cases h
  | cons o os =>
   have hoj : ops[j]? = some o := by simpa using ho 0 o rfl
   have hdj : all[j]? = some d := by simpa using hd 0 d rfl
   obtain ⟨h1, h2⟩ := and'_ok h
   obtain ⟨h2, h3⟩ := and'_ok h2
   obtain ⟨h3, h4⟩ := and'_ok h3
   obtain ⟨h4, h5⟩ := and'_ok h4
   have ham := ancm_ok ha hoj (es := o.after.toList) (fun e he => by simpa using he) h1
   obtain ⟨q1, q2⟩ := dstk_ok (all := all) (is := is) (os := os) (j := j + 1) (acc := (d, msk d.us, msk (uOs d.ps)) :: acc) (ams := ancm ams j o.after.toList :: ams)
    (fun i o' hi => by rw [show j + 1 + i = j + (i + 1) by omega]; exact ho (i + 1) o' (by simpa using hi))
    (fun i d' hi => by rw [show j + 1 + i = j + (i + 1) by omega]; exact hd (i + 1) d' (by simpa using hi))
    ⟨by simp [ha.1], fun i hi k hk => by
     rw [nthm_eq] at hk
     by_cases hij : i = j
     ·subst hij
      simp at hk
      exact ham k hk
     ·have e : j + 1 - 1 - i = (j - 1 - i) + 1 := by omega
      rw [e] at hk
      refine ha.2 i (by omega) k ?_
      rw [nthm_eq]
      simpa using hk⟩
    (fun i p hp => by
     cases i with
     | zero => simp at hp; subst hp; exact ⟨by omega, by simpa using hdj, rfl, rfl⟩
     | succ i =>
      obtain ⟨g1, g2, g3⟩ := hac i p (by simpa using hp)
      exact ⟨by omega, by rw [show j + 1 - 1 - (i + 1) = j - 1 - i by omega]; exact g2, g3⟩)
    (by simp [hal]) h5
   refine ⟨by simp [q1], fun i d' hi => ?_⟩
   cases i with
   | zero =>
    simp at hi
    subst hi
    refine ⟨fun o' e ho' he hb => ?_, dno_ok h2, psok_ok h3, fun i x hi hx => ?_⟩
    ·rw [show j + 0 = j from rfl, hoj] at ho'
     cases ho'
     exact backk_ok h1 e (by simpa using he) hb
    ·have hlt : j - 1 - i < acc.length := by rw [hal]; omega
     have hget : acc[j - 1 - i]? = some acc[j - 1 - i] := List.getElem?_eq_getElem hlt
     obtain ⟨g1, g2, g3⟩ := hac _ _ hget
     rw [show j - 1 - (j - 1 - i) = i by omega, hx] at g2
     have gx : x = acc[j - 1 - i].1 := Option.some.inj g2
     obtain ⟨k1, k2⟩ := pairk_ok h4 (fun p hp => by
      obtain ⟨n, hn⟩ := List.getElem?_of_mem hp
      exact (hac n p hn).2.2) (j - 1 - i) _ hget
     rw [Nat.zero_add] at k2
     refine ⟨by rw [gx]; exact k1, ?_⟩
     rcases k2 with k2 | k2
     ·rw [show j - 1 - (j - 1 - i) = i by omega] at k2
      exact .inl (ham i k2)
     ·rw [gx]; exact .inr k2
   | succ i =>
    rw [show j + (i + 1) = j + 1 + i by omega]
    exact q2 i d' (by simpa using hi)
theorem dstat_ok {is : List D} (h : dstk is ops.toList 0 [] [] = true) : DStat ops is := by
 obtain ⟨h1, h2⟩ := dstk_ok (ops := ops) (all := is) (j := 0) (acc := []) (ams := []) (fun i o hi => by simpa using hi) (fun i d hi => by simpa using hi) ⟨rfl, fun i hi => by omega⟩ (fun i p hp => by simp at hp) rfl h
 have h2 : ∀ i d, is[i]? = some d -> DS1 ops is i d := fun i d hd => by simpa using h2 i d hd
 have hlen : is.length = ops.size := by simpa using h1
 refine ⟨hlen, ?_, ?_, ?_, ?_⟩
 ·intro j o e ho he hb
  have hlt : j < is.length := by rw [hlen]; exact (Array.getElem?_eq_some_iff.1 ho).1
  obtain ⟨d, hd⟩ := getD_of hlt
  exact (h2 j d hd).back o e ho he hb
 ·intro i j x y hij hx hy t ht
  by_cases e : i = j
  ·subst e
   rw [hx] at hy
   cases hy
   exact (h2 i x hx).self t ht
  ·exact ((h2 j y hy).pair i x (by omega) hx).1 t ht
 ·intro i j x y hij hx hy
  exact ((h2 j y hy).pair i x hij hx).2
 ·intro i x z v hx hz e
  exact ((h2 i x hx).psk z v hz e).elim
theorem mck_ok {mi : I -> Oper -> Prop} (hM : ∀ i o, M i o = true -> mi i o) : ∀ {cd : Code} {c : C}, mck M N vs cd c = true ->
  MC (fun is outs x => ∃ id ops, x = .region id ops false /\ rgk M N vs is outs ops = true) (fun is outs x => ∃ id ops, x = .region id ops true /\ drk M N vs is outs ops = true) c cd
 | .skip, c, h => by cases c <;> first | (cases h; done) | exact .skip
 | .region id ops dr, c, h => by
  cases c <;> first | (cases h; done) | skip
  ·obtain ⟨h1, h2⟩ := and'_ok h
   have := not'_ok h1
   subst this
   exact .rg ⟨id, ops, rfl, h2⟩
  ·obtain ⟨h1, h2⟩ := and'_ok h
   subst h1
   exact .dr ⟨id, ops, rfl, h2⟩
 | .seq x y, c, h => by
  cases c <;> first | (cases h; done) | skip
  obtain ⟨h1, h2⟩ := and'_ok h
  exact .seq (mck_ok hM h1) (mck_ok hM h2)
 | .cond o x y, c, h => by
  cases c <;> first | (cases h; done) | skip
  obtain ⟨h1, h2⟩ := and'_ok h
  obtain ⟨h2, h3⟩ := and'_ok h2
  exact .cond h1 (mck_ok hM h2) (mck_ok hM h3)
 | .block id y, c, h => by
  cases c <;> first | (cases h; done) | skip
  obtain ⟨h1, h2⟩ := and'_ok h
  have := beq_true.1 h1
  subst this
  exact .block (mck_ok hM h2)
 | .loop y, c, h => by
  cases c <;> first | (cases h; done) | skip
  exact .loop (mck_ok hM (cd := y) h)
 | .exit id, c, h => by
  cases c <;> first | (cases h; done) | skip
  have := beq_true.1 h
  subst this
  exact .exit
 | .ret, c, h => by cases c <;> first | (cases h; done) | exact .ret
 | .rangeFunc .., c, h => by cases h
 | .scope .., c, h => by cases h
 | .label .., c, h => by cases h
 | .goto .., c, h => by cases h
 | .refuse .., c, h => by cases h
theorem parok_ok : ∀ {np : Nat}, parok vs np = true -> ∀ i, i < np -> tb vs i = true
 | 0, _, i, hi => by omega
 | n + 1, h, i, hi => by
  obtain ⟨h1, h2⟩ := and'_ok h
  by_cases e : i = n
  ·subst e; exact h1
  ·exact parok_ok h2 i (by omega)
theorem rvks_ok {one : TypeId -> Bool} (ho : ∀ t, one t = true -> oneT P t = true) : ∀ {rs : List Rv} {ws : List ResultVar}, rvks one rs ws = true -> All2 (fun r f => rvm P r f = true) rs ws
 | [], ws, h => by
  cases ws with
  | nil => exact .nil
  | cons w ws => cases h
 | r :: rs, ws, h => by
  cases ws with
  | nil => cases h
  | cons w ws =>
   obtain ⟨h1, h2⟩ := and'_ok h
   refine .cons ?_ (rvks_ok ho h2)
   cases r <;> cases w <;> first | exact h1 | (cases h1; done) | skip
   ·obtain ⟨h3, h4⟩ := and'_ok h1
    show (Nat.beq _ _ && oneT P _) = true
    rw [h3, ho _ h4]; rfl
   ·obtain ⟨h3, h4⟩ := and'_ok h1
    show (Nat.beq _ _ && Nat.beq _ _) = true
    rw [h3, h4]; rfl
theorem fok_ok (hty : TyOk P) (hmx : P.follows .mixedOrders = true) {X : Nat × Nat × Nat} (hX : XsOk P X) (hM : ∀ i o, M i o = true -> mik P X i o = true) {one : TypeId -> Bool} (ho : ∀ t, one t = true -> oneT P t = true) {f : Nat} {fn : Func} {fd : FD} (hf : P.funcs[f]? = some fn) (h : fok M vs one fn fd = true) {rec : Rec} (hrec : RecOk P rec) (hfn : RecFn P rec)
  {as : List AV} {wm : Nat} {s : St} {r : AV × Nat × Hp} {vs' : List Value} (hk : body rec fd as wm s.n s.H = some r) (hi : Inv P s) (hw : wm <= s.n) (hv : All2 (VR P s.K s.ρ) as vs') : Calls P f vs'.toArray s.w (CallPost P wm s r) := by
 unfold fok at h
 split at h
 ·rename_i c hc
  obtain ⟨h1, h2⟩ := and'_ok h
  obtain ⟨h2, h3⟩ := and'_ok h2
  obtain ⟨h3, h4⟩ := and'_ok h3
  refine body_ok2 hty hf hc (Nat.le_of_ble_eq_true h1) (V := fun i => tb vs i = true) (parok_ok h2) (rvks_ok ho h3) (mck_ok (mi := fun i o => mik P X i o = true) hM h4) ?_ ?_ hk hi hw hv
  ·rintro is outs c' ⟨id, ops, rfl, hr⟩
   obtain ⟨g1, g2⟩ := and'_ok hr
   obtain ⟨g3, g4⟩ := outk_ok g2
   have hg := gsk_ok (P := P) (ops := ops) (k := 0) hM (fun i o hi => by simpa using hi) g1
   rw [<- List.range_eq_range', Array.length_toList] at hg
   exact reg_ok hty (mik_ok hty hX hrec hfn) hg g3 g4
  ·rintro is outs c' ⟨id, ops, rfl, hr⟩
   obtain ⟨g1, g2⟩ := and'_ok hr
   obtain ⟨g2, g5⟩ := and'_ok g2
   obtain ⟨g3, g4⟩ := outk_ok g5
   exact dreg_ok hty hmx (mik_ok hty hX hrec hfn) (dsk_ok hM g1) (dstat_ok g2) g3 g4
 ·cases h
end
end Go.Proofs.YtgaghaggiblabaaGreatDoor.Ev
namespace Go.Proofs.YtgaghaggiblabaaGreatDoor.Ev
open Go.RowKit
section
variable {P : PX}
def Snd (P : PX) (f : Nat) (fd : FD) : Prop := FnOk P f /\ ∀ rec, RecOk P rec -> RecFn P rec -> ∀ (as : List AV) (wm : Nat) (s : St) (r : AV × Nat × Hp) (vs : List Value), body rec fd as wm s.n s.H = some r -> Inv P s -> wm <= s.n -> All2 (VR P s.K s.ρ) as vs -> Calls P f vs.toArray s.w (CallPost P wm s r)
structure Known (P : PX) (mem : Nat -> List AV -> Option AV) : Prop where
 fn : ∀ f as r, mem f as = some r -> FnOk P f
 ok : MemOk P mem
theorem known_none : Known P (fun _ _ => none) := ⟨fun _ _ _ e => (by cases e), fun _ _ _ e => (by cases e)⟩
theorem run_fn {tab : Nat -> Option FD} (htab : ∀ f fd, tab f = some fd -> Snd P f fd) {mem : Nat -> List AV -> Option AV} (hmem : Known P mem) : ∀ fuel, RecFn P (run tab mem fuel) := by
 intro fuel f as wm n H r h
 cases fuel with
 | zero => cases h
 | succ fuel =>
  replace h : (match mem f as with | some r => some (r, n, H) | none => (match tab f with | some fd => body (run tab mem fuel) fd as wm n H | none => none)) = some r := h
  split at h
  ·rename_i q hq
   exact hmem.fn f as q hq
  ·split at h
   ·rename_i fd hfd
    exact (htab f fd hfd).1
   ·cases h
theorem run_ok2 {tab : Nat -> Option FD} (htab : ∀ f fd, tab f = some fd -> Snd P f fd) {mem : Nat -> List AV -> Option AV} (hmem : Known P mem) : ∀ fuel, RecOk P (run tab mem fuel) := by
 intro fuel
 induction fuel with
 | zero => intro f as wm s r vs h; cases h
 | succ fuel ih =>
  intro f as wm s r vs h hi hw hv
  replace h : (match mem f as with | some r => some (r, s.n, s.H) | none => (match tab f with | some fd => body (run tab mem fuel) fd as wm s.n s.H | none => none)) = some r := h
  split at h
  ·rename_i q hq
   cases h
   exact hmem.ok f as q hq wm s vs hi hw hv
  ·split at h
   ·rename_i fd hfd
    exact (htab f fd hfd).2 _ ih (run_fn htab hmem fuel) as wm s r vs h hi hw hv
   ·cases h
structure Fact where
 f : Nat
 as : List AV
 r : AV
theorem known_of (hty : TyOk P) {tab : Nat -> Option FD} (htab : ∀ f fd, tab f = some fd -> Snd P f fd) {mem : Nat -> List AV -> Option AV} (hmem : Known P mem) {fuel f : Nat} {as : List AV} {r : AV} (h : run tab mem fuel f as 0 0 [] = some (r, 0, [])) (hf : fzl (fz 0 [] 60 true) as some = some as) :
  FnOk P f /\ ∀ (wm : Nat) (s : St) (vs : List Value), Inv P s -> wm <= s.n -> All2 (VR P s.K s.ρ) as vs -> Calls P f vs.toArray s.w (CallPost P wm s (r, s.n, s.H)) :=
 ⟨run_fn htab hmem fuel _ _ _ _ _ _ h, mem_ok hty (run_ok2 htab hmem fuel) h hf⟩
end
end Go.Proofs.YtgaghaggiblabaaGreatDoor.Ev
namespace Go.Proofs.YtgaghaggiblabaaGreatDoor.Ev
open Go.RowKit
noncomputable def und (J : Nat -> Option TypeInfo) (t : TypeId) : Option TypeDesc := match J t with | some i => (match i.desc with | .named _ u => (J u).map (·.desc) | d => some d) | none => none
def pomJ : List (Nat × O) -> List (Nat × Operand) -> Bool
 | [], [] => true
 | (i, x) :: xs, (j, y) :: ys => Nat.beq i j && om x y && pomJ xs ys
 | _, _ => false
theorem pomJ_eq (P : PX) : ∀ (xs : List (Nat × O)) (ys : List (Nat × Operand)), pomJ xs ys = pom P xs ys
 | [], [] => rfl
 | [], _ :: _ => rfl
 | _ :: _, [] => rfl
 | (i, x) :: xs, (j, y) :: ys => by rw [pomJ, pom, pomJ_eq P xs ys]
noncomputable def clo (J : Nat -> Option TypeInfo) (t : TypeId) : Nat := ((J t).map (·.size)).getD 0
theorem und_eq (P : PX) : und P.info? = P.underlying := by
 funext t
 unfold und Program.underlying
 cases P.info? t with
 | none => rfl
 | some i => obtain ⟨d⟩ := i; cases d <;> rfl
theorem clo_eq (P : PX) : clo P.info? = P.cellsOf := rfl
noncomputable def tinJ (J : Nat -> Option TypeInfo) (n0 : Nat) (t : TypeId) : Bool := Nat.ble (t + 1) n0
noncomputable def layJ (J : Nat -> Option TypeInfo) (n0 : Nat) (t : TypeId) : Lay := if tinJ J n0 t = true then (match und J t with | some (.struct _) | some (.array ..) => some t | _ => none) else none
noncomputable def compsJ (J : Nat -> Option TypeInfo) (n0 : Nat) (t : TypeId) : Option (List Lay) := if tinJ J n0 t = true then (match und J t with
 | some (.struct fs) => some (fs.toList.map fun f => layJ J n0 f.type)
 | some (.array n e) => some (List.replicate n (layJ J n0 e))
 | _ => none) else none
noncomputable def szlJ (J : Nat -> Option TypeInfo) (n0 : Nat) : Lay -> Nat | none => 1 | some t => clo J t
noncomputable def oneTJ (J : Nat -> Option TypeInfo) (n0 : Nat) (t : TypeId) : Bool := tinJ J n0 t && (und J t).isSome && (layJ J n0 t).isNone
noncomputable def zsJ (J : Nat -> Option TypeInfo) (n0 : Nat) : Nat -> List AV -> List Lay -> List Value -> Option (List Value)
 | 0, _, _, _ => none
 | _ + 1, [], [], cs => some cs
 | f + 1, a :: as, l :: ls, cs => match l with
  | some t => (match a with
   | .agg u fs => if t = u then (match compsJ J n0 t with | some ts => (zsJ J n0 f fs ts cs).bind fun r => zsJ J n0 f as ls r | none => none) else none
   | _ => none)
  | none => (match cs with | v :: r => if sok a v = true then zsJ J n0 f as ls r else none | [] => none)
 | _ + 1, _, _, _ => none
noncomputable def zokJ (J : Nat -> Option TypeInfo) (n0 : Nat) (z : AV) (t : TypeId) : Bool := match J t with
 | some i => (match i.zero with
  | some v => (match zsJ J n0 60 [z] [layJ J n0 t] v.cells.toList with | some [] => true | _ => false) && (match layJ J n0 t, v with | none, .agg _ => false | some _, .agg _ => true | none, _ => true | some _, _ => false)
  | none => false)
 | none => false
noncomputable def shk0J (J : Nat -> Option TypeInfo) (n0 : Nat) (h : Sh) (t : TypeId) : Bool := match h, und J t with
 | .i, some (.int _) => true | .s, some .string => true | .b, some .bool => true | .p, some (.pointer _) => true | .l, some (.slice _) => true | .f, some (.func ..) => true
 | _, _ => false
noncomputable def shk1J (J : Nat -> Option TypeInfo) (n0 : Nat) (h : Sh) (t : TypeId) : Bool := tinJ J n0 t && shk0J J n0 h t
noncomputable def shkJ (J : Nat -> Option TypeInfo) (n0 : Nat) (S : Sh -> TypeId -> Bool) (h : Sh) (t : TypeId) : Bool := match h with | .a u hs => S (.a u hs) t | h => shk1J J n0 h t
noncomputable def slkJ (J : Nat -> Option TypeInfo) (n0 : Nat) (q e : Nat) (t : TypeId) : Bool := match und J t with | some (.slice el) => q == 0 && e == lcode (layJ J n0 el) && (und J el).isSome && tinJ J n0 el | some .string => q == 1 | _ => false
noncomputable def elkJ (J : Nat -> Option TypeInfo) (n0 : Nat) (el : TypeId) : Bool := match J el with | some i => ((und J el).isSome && tinJ J n0 el) && decide (i.bytes <= 65536) && (match i.zero with | some z => z.cells.size == i.size | none => false) | none => false
noncomputable def blkJ (J : Nat -> Option TypeInfo) (n0 : Nat) (z : AV) (t : TypeId) : Bool := zokJ J n0 z t && (match und J t with | some (.struct fs) => fs.toList.all (fun f => (und J f.type).isSome && tinJ J n0 f.type) | some (.array _ e) => (und J e).isSome && tinJ J n0 e | _ => false)
noncomputable def rwkJ (J : Nat -> Option TypeInfo) (n0 : Nat) (z : AV) (t : TypeId) : Bool := match und J t with | some (.slice e) => zokJ J n0 z e && ((und J e).isSome && tinJ J n0 e) && decide ((match J e with | some i => i.bytes | none => 0) <= 65536) && decide (clo J e <= 1000) | _ => false
noncomputable def lnkJ (J : Nat -> Option TypeInfo) (n0 : Nat) (q : Nat) (t : TypeId) : Bool := match und J t with | some (.slice _) => q == 0 | some .string => q == 1 | some (.map ..) => q == 2 | _ => false
noncomputable def apkJ (J : Nat -> Option TypeInfo) (n0 : Nat) (e : Nat) (sT xT : TypeId) : Bool := match und J sT with
 | some (.slice el) => (match und J xT with | some (.int _) => false | some _ => true | none => false) && elkJ J n0 el && Nat.beq e (lcode (layJ J n0 el))
 | _ => false
noncomputable def cokpJ (J : Nat -> Option TypeInfo) (n0 : Nat) (e : Nat) (sT : TypeId) : Bool := match und J sT with | some (.slice el) => elkJ J n0 el && Nat.beq e (lcode (layJ J n0 el)) | _ => false
noncomputable def ixkJ (J : Nat -> Option TypeInfo) (n0 : Nat) (t' : Nat) (t : TypeId) : Bool := match und J t with
 | some .string => Nat.beq t' 0
 | some (.array n e) => Nat.beq t' (t + 1) && ((und J e).isSome && tinJ J n0 e) && (match J e with | some i => Nat.beq i.size (szlJ J n0 (layJ J n0 e)) | none => false)
 | _ => false
noncomputable def mapkJ (J : Nat -> Option TypeInfo) (n0 : Nat) (h : Sh) (t : TypeId) : Bool := match h, und J t with | .i, some (.map k _) => (match und J k with | some (.int _) => true | _ => false) | _, _ => false
noncomputable def azkJ (J : Nat -> Option TypeInfo) (n0 : Nat) (z : AV) (sT xT : TypeId) : Bool := rwkJ J n0 z sT && (match und J xT with | some (.int _) => true | _ => false)
noncomputable def intkJ (J : Nat -> Option TypeInfo) (n0 : Nat) (k : IntKind) (u : TypeId) : Bool := match und J u with | some (.int k') => keq k k' | _ => false
noncomputable def bbkJ (J : Nat -> Option TypeInfo) (n0 : Nat) (t u : TypeId) : Bool := match und J t with | some (.slice e) => (match und J e with | some (.int k) => keq k .u8 | _ => false) && (match und J u with | some .string => true | _ => false) | _ => false
noncomputable def fldcJ (J : Nat -> Option TypeInfo) (n0 : Nat) (t f : Nat) : Nat := match und J t with | some (.struct fs) => (match fs[f]? with | some fd => lcode (layJ J n0 fd.type) | none => 0) | _ => 0
noncomputable def fldkJ (J : Nat -> Option TypeInfo) (n0 : Nat) (t f u : Nat) : Bool := match und J t with | some (.struct fs) => (match fs[f]? with | some fd => (und J fd.type).isSome && not' (Nat.beq (clo J fd.type) 0) && Nat.beq u (lcode (layJ J n0 fd.type)) && tinJ J n0 t && tinJ J n0 fd.type | none => false) | _ => false
noncomputable def idxkJ (J : Nat -> Option TypeInfo) (n0 : Nat) (U t e m : Nat) : Bool := match und J U with
 | some (.slice el) => Nat.beq t 0 && Nat.beq e (lcode (layJ J n0 el)) && (und J el).isSome && tinJ J n0 el && tinJ J n0 U
 | some (.array m' el) => Nat.beq t (U + 1) && Nat.beq m m' && Nat.beq e (lcode (layJ J n0 el)) && (und J el).isSome && tinJ J n0 el && tinJ J n0 U
 | _ => false
noncomputable def mapzJ (J : Nat -> Option TypeInfo) (n0 : Nat) (z : AV) (t : TypeId) : Bool := match und J t with | some (.map _ e) => zokJ J n0 z e | _ => false
noncomputable def mikJ (J : Nat -> Option TypeInfo) (n0 : Nat) (S : Sh -> TypeId -> Bool) (X : Nat × Nat × Nat) (i : I) (o : Oper) : Bool := match i with
 | .mv x => (match o.op with | .move y => om x y | .assign y => om x y | _ => false)
 | .pk c a b => (match o.op with | .pick c' a' b' => om c c' && om a a' && om b b' | _ => false)
 | .al z => (match o.op with | .alloc t => zokJ J n0 z t | _ => false)
 | .bx x => (match o.op with | .box _ y => om x y | _ => false)
 | .ld x => (match o.op with | .load t y => om x y && oneTJ J n0 t | _ => false)
 | .la t x => (match o.op with | .load t' y => Nat.beq t t' && om x y | _ => false)
 | .st x v => (match o.op with | .store t y z => om x y && om v z && oneTJ J n0 t | _ => false)
 | .sa t x v => (match o.op with | .store t' y z => Nat.beq t t' && om x y && om v z | _ => false)
 | .nc x => (match o.op with | .nilCheck y => om x y | _ => false)
 | .nt x => (match o.op with | .unOp .not _ y => om x y | _ => false)
 | .cv k x => (match o.op with | .convert t u y => om x y && (und J t).isSome && intkJ J n0 k u | _ => false)
 | .bb x => (match o.op with | .convert t u y => om x y && bbkJ J n0 t u | _ => false)
 | .eq h x y => (match o.op with | .binOp .eql t x' y' _ => om x x' && om y y' && shkJ J n0 S h t | _ => false)
 | .ne h x y => (match o.op with | .binOp .neq t x' y' _ => om x x' && om y y' && shkJ J n0 S h t | _ => false)
 | .fa t x f u => (match o.op with | .fieldAddr t' y f' => Nat.beq t (t' + 1) && Nat.beq f f' && om x y && fldkJ J n0 t' f' u | _ => false)
 | .fd t x f => (match o.op with | .field t' y f' => Nat.beq t (t' + 1) && Nat.beq f f' && om x y && fldkJ J n0 t' f' (fldcJ J n0 t' f') | _ => false)
 | .ia t e m x i => (match o.op with | .indexAddr U x' i' => om x x' && om i i' && idxkJ J n0 U t e m | _ => false)
 | .ix t x i => (match o.op with | .index t' x' i' => om x x' && om i i' && ixkJ J n0 t t' | _ => false)
 | .ex x i => (match o.op with | .extract y i' => om x y && Nat.beq i i' | _ => false)
 | .bl z ps => (match o.op with | .build t qs => pomJ ps qs.toList && blkJ J n0 z t | _ => false)
 | .bs z m ps => (match o.op with | .buildSlice t m' qs => Nat.beq m m' && pomJ ps qs.toList && rwkJ J n0 z t && Nat.ble m 1000 | _ => false)
 | .ms z x => (match o.op with | .makeSlice t a' b' => om x a' && om x b' && oeq a' b' && rwkJ J n0 z t | _ => false)
 | .mm => (match o.op with | .makeMap _ q => q.isNone | _ => false)
 | .mu h m k v => (match o.op with | .mapUpdate t y q z => om m y && om k q && om v z && mapkJ J n0 h t | .insert t y q z => om m y && om k q && om v z && mapkJ J n0 h t | _ => false)
 | .lu h z m k ok => (match o.op with | .lookup t y q ok' => om m y && om k q && mapkJ J n0 h t && mapzJ J n0 z t && (ok == ok') | _ => false)
 | .mf f fi ca => (match o.op with | .makeFunc (.func f') a' b' => Nat.beq f f' && oms fi a'.toList && oms ca b'.toList | _ => false)
 | .sl q e x lo hi mx => (match o.op with | .slice U x' lo' hi' mx' => om x x' && omo lo lo' && omo hi hi' && omo mx mx' && slkJ J n0 q e U | _ => false)
 | .ln q x => (match o.op with | .call { callee := .builtin .len, args := ys, argTypes := ts } => oms [x] ys.toList && tys ts fun l => (match l with | [t] => lnkJ J n0 q t | _ => false) | _ => false)
 | .cp x => (match o.op with | .call { callee := .builtin .cap, args := ys, argTypes := ts } => oms [x] ys.toList && tys ts fun l => (match l with | [t] => lnkJ J n0 0 t | _ => false) | _ => false)
 | .mi x y => (match o.op with | .call { callee := .builtin .min, args := ys, argTypes := _ } => oms [x, y] ys.toList | _ => false)
 | .ma x y => (match o.op with | .call { callee := .builtin .max, args := ys, argTypes := _ } => oms [x, y] ys.toList | _ => false)
 | .ap e s x => (match o.op with | .call { callee := .builtin .append, args := ys, argTypes := ts } => oms [s, x] ys.toList && tys ts fun l => (match l with | [t, u] => apkJ J n0 e t u | _ => false) | _ => false)
 | .az z s x => (match o.op with | .call { callee := .builtin .append, args := ys, argTypes := ts } => oms [s, x] ys.toList && tys ts fun l => (match l with | [t, u] => azkJ J n0 z t u | _ => false) | _ => false)
 | .co e d s => (match o.op with | .call { callee := .builtin .copy, args := ys, argTypes := ts } => oms [d, s] ys.toList && tys ts fun l => (match l with | [t, _] => cokpJ J n0 e t | _ => false) | _ => false)
 | .cl z s => (match o.op with | .call { callee := .builtin .clear, args := ys, argTypes := ts } => oms [s] ys.toList && tys ts fun l => (match l with | [t] => rwkJ J n0 z t | _ => false) | _ => false)
 | .ca f as => (match o.op with | .call { callee := .value (.func f'), args := ys, argTypes := _ } => Nat.beq f f' && oms as ys.toList | _ => false)
 | .cd f as => (match o.op with | .call { callee := .value y, args := ys, argTypes := _ } => om f y && oms as ys.toList | _ => false)
 | .lx x => (match o.op with | .call { callee := .value (.func f'), args := ys, argTypes := _ } => Nat.beq f' X.1 && oms [x] ys.toList | _ => false)
 | .sx x v => (match o.op with | .call { callee := .value (.func f'), args := ys, argTypes := _ } => Nat.beq f' X.2.1 && oms [x, v] ys.toList | _ => false)
 | .cs x p v => (match o.op with | .call { callee := .value (.func f'), args := ys, argTypes := _ } => Nat.beq f' X.2.2 && oms [x, p, v] ys.toList | _ => false)
 | .iadd x y => (match o.op with | .binOp .add _ x' y' _ => om x x' && om y y' | _ => false)
 | .isub x y => (match o.op with | .binOp .sub _ x' y' _ => om x x' && om y y' | _ => false)
 | .imul x y => (match o.op with | .binOp .mul _ x' y' _ => om x x' && om y y' | _ => false)
 | .iquo x y => (match o.op with | .binOp .quo _ x' y' _ => om x x' && om y y' | _ => false)
 | .irem x y => (match o.op with | .binOp .rem _ x' y' _ => om x x' && om y y' | _ => false)
 | .iand x y => (match o.op with | .binOp .and _ x' y' _ => om x x' && om y y' | _ => false)
 | .ior x y => (match o.op with | .binOp .or _ x' y' _ => om x x' && om y y' | _ => false)
 | .ixor x y => (match o.op with | .binOp .xor _ x' y' _ => om x x' && om y y' | _ => false)
 | .ishl x y => (match o.op with | .binOp .shl _ x' y' _ => om x x' && om y y' | _ => false)
 | .ishr x y => (match o.op with | .binOp .shr _ x' y' _ => om x x' && om y y' | _ => false)
 | .ilss x y => (match o.op with | .binOp .lss _ x' y' _ => om x x' && om y y' | _ => false)
 | .ileq x y => (match o.op with | .binOp .leq _ x' y' _ => om x x' && om y y' | _ => false)
 | .igtr x y => (match o.op with | .binOp .gtr _ x' y' _ => om x x' && om y y' | _ => false)
 | .igeq x y => (match o.op with | .binOp .geq _ x' y' _ => om x x' && om y y' | _ => false)
 | .no => true
 | _ => false
section
variable (P : PX)
theorem tinJ_eq : tinJ P.info? P.types.size = tin P := rfl
theorem layJ_eq : layJ P.info? P.types.size = lay P := by funext t; unfold layJ lay; rw [und_eq, tinJ_eq] <;> rfl
theorem compsJ_eq : compsJ P.info? P.types.size = comps P := by funext t; unfold compsJ comps; rw [und_eq, layJ_eq, tinJ_eq] <;> rfl
theorem szlJ_eq : szlJ P.info? P.types.size = szl P := by funext l; cases l <;> rfl
theorem oneTJ_eq : oneTJ P.info? P.types.size = oneT P := by funext t; unfold oneTJ oneT; rw [und_eq, layJ_eq, tinJ_eq] <;> rfl
theorem zsJ_eq : ∀ (f : Nat) (as : List AV) (ls : List Lay) (cs : List Value), zsJ P.info? P.types.size f as ls cs = zs P f as ls cs
 | 0, _, _, _ => by rw [zsJ, zs]
 | f + 1, [], [], cs => by rw [zsJ, zs]
 | f + 1, [], _ :: _, cs => rfl
 | f + 1, _ :: _, [], cs => rfl
 | f + 1, a :: as, l :: ls, cs => by
  have e1 : zsJ P.info? P.types.size f = zs P f := by funext x y z; exact zsJ_eq f x y z
  cases l with
  | none => cases cs <;> simp only [zsJ, zs, e1]
  | some t => cases a <;> simp only [zsJ, zs, e1, compsJ_eq] <;> rfl
theorem zokJ_eq : zokJ P.info? P.types.size = zok P := by
 funext z t
 have e1 : zsJ P.info? P.types.size 60 = zs P 60 := by funext x y z; exact zsJ_eq P 60 x y z
 unfold zokJ zok
 rw [layJ_eq, e1] <;> rfl
theorem shk0J_eq : shk0J P.info? P.types.size = shk0 P := by funext h t; unfold shk0J shk0; rw [und_eq] <;> rfl
theorem shk1J_eq : shk1J P.info? P.types.size = shk1 P := by funext h t; unfold shk1J shk1; rw [shk0J_eq, tinJ_eq] <;> rfl
theorem shkJ_eq : shkJ P.info? P.types.size (shk P) = shk P := by funext h t; cases h <;> simp only [shkJ, shk, shk1J_eq]
theorem slkJ_eq : slkJ P.info? P.types.size = slk P := by funext q e t; unfold slkJ slk; rw [tinJ_eq, und_eq, layJ_eq] <;> rfl
theorem elkJ_eq : elkJ P.info? P.types.size = elk P := by funext t; unfold elkJ elk; rw [tinJ_eq, und_eq] <;> rfl
theorem blkJ_eq : blkJ P.info? P.types.size = blk P := by funext z t; unfold blkJ blk; rw [tinJ_eq, und_eq, zokJ_eq] <;> rfl
theorem rwkJ_eq : rwkJ P.info? P.types.size = rwk P := by funext z t; unfold rwkJ rwk; rw [tinJ_eq, und_eq, zokJ_eq, clo_eq] <;> rfl
theorem lnkJ_eq : lnkJ P.info? P.types.size = lnk P := by funext q t; unfold lnkJ lnk; rw [und_eq] <;> rfl
theorem apkJ_eq : apkJ P.info? P.types.size = apk P := by funext e s t; unfold apkJ apk; rw [und_eq, elkJ_eq, layJ_eq] <;> rfl
theorem cokpJ_eq : cokpJ P.info? P.types.size = cok' P := by funext e s; unfold cokpJ cok'; rw [und_eq, elkJ_eq, layJ_eq] <;> rfl
theorem ixkJ_eq : ixkJ P.info? P.types.size = ixk P := by funext e s; unfold ixkJ ixk; rw [tinJ_eq, und_eq, szlJ_eq, layJ_eq] <;> rfl
theorem mapkJ_eq : mapkJ P.info? P.types.size = mapk P := by funext e s; unfold mapkJ mapk; rw [und_eq] <;> rfl
theorem azkJ_eq : azkJ P.info? P.types.size = azk P := by funext z s x; unfold azkJ azk; rw [und_eq, rwkJ_eq] <;> rfl
theorem intkJ_eq : intkJ P.info? P.types.size = intk P := by funext z s; unfold intkJ intk; rw [und_eq] <;> rfl
theorem bbkJ_eq : bbkJ P.info? P.types.size = bbk P := by funext z s; unfold bbkJ bbk; rw [und_eq] <;> rfl
theorem fldcJ_eq : fldcJ P.info? P.types.size = fldc P := by funext z s; unfold fldcJ fldc; rw [und_eq, layJ_eq] <;> rfl
theorem fldkJ_eq : fldkJ P.info? P.types.size = fldk P := by funext z s u; unfold fldkJ fldk; rw [tinJ_eq, und_eq, layJ_eq, clo_eq] <;> rfl
theorem idxkJ_eq : idxkJ P.info? P.types.size = idxk P := by funext z s u v; unfold idxkJ idxk; rw [tinJ_eq, und_eq, layJ_eq] <;> rfl
theorem mapzJ_eq : mapzJ P.info? P.types.size = mapz P := by funext z s; unfold mapzJ mapz; rw [und_eq, zokJ_eq] <;> rfl
theorem mikJ_eq (X : Nat × Nat × Nat) (i : I) (o : Oper) : mikJ P.info? P.types.size (shk P) X i o = mik P X i o := by
 have e : ∀ xs ys, pomJ xs ys = pom P xs ys := pomJ_eq P
 cases i <;> simp only [mikJ, mik, zokJ_eq, oneTJ_eq, und_eq, intkJ_eq, bbkJ_eq, shkJ_eq, fldkJ_eq, fldcJ_eq, idxkJ_eq, ixkJ_eq, e, blkJ_eq, rwkJ_eq, mapkJ_eq, mapzJ_eq, slkJ_eq, lnkJ_eq, apkJ_eq, azkJ_eq, cokpJ_eq] <;> rfl
end
inductive Tt where | e | n (l : Tt) (k : Nat) (v : TypeInfo) (r : Tt)
noncomputable def Tt.get (t : Tt) (i : Nat) : Option TypeInfo := Tt.rec none (fun _ k v _ il ir => Bool.rec (Bool.rec ir il (Nat.ble i k)) (some v) (Nat.beq i k)) t
noncomputable def lhd (l : List TypeInfo) : TypeInfo := match l with | x :: _ => x | [] => default
noncomputable def ltl (l : List TypeInfo) : List TypeInfo := match l with | _ :: r => r | [] => []
noncomputable def ldrop (l : List TypeInfo) (n : Nat) : List TypeInfo := Nat.rec l (fun _ ih => ltl ih) n
noncomputable def mkT (d : Nat) : Nat -> Nat -> List TypeInfo -> Tt := Nat.rec (fun _ _ _ => .e) (fun _ ih lo n l => Bool.rec
 (.n (ih lo (Nat.div n 2) l) (Nat.add lo (Nat.div n 2)) (lhd (ldrop l (Nat.div n 2))) (ih (Nat.add (Nat.add lo (Nat.div n 2)) 1) (Nat.sub (Nat.sub n (Nat.div n 2)) 1) (ltl (ldrop l (Nat.div n 2))))) .e (Nat.beq n 0)) d
theorem ldrop_eq (l : List TypeInfo) : ∀ n, ldrop l n = l.drop n
 | 0 => rfl
 | n + 1 => by
  show ltl (ldrop l n) = _
  rw [ldrop_eq l n]
  cases e : l.drop n with
  | nil =>
   have := List.drop_eq_nil_iff.1 e
   rw [List.drop_eq_nil_of_le (by omega)]
   rfl
  | cons x r =>
   have : l.drop (n + 1) = (l.drop n).drop 1 := by rw [List.drop_drop]
   rw [this, e]
   rfl
theorem mkT_get : ∀ (d lo n : Nat) (l : List TypeInfo), n < 2 ^ d -> n <= l.length -> ∀ i, Tt.get (mkT d lo n l) i = if lo <= i /\ i < lo + n then l[i - lo]? else none
 | 0, lo, n, l, h, _, i => by
  have : n = 0 := by simpa using h
  subst this
  rw [if_neg (by omega)]
  rfl
 | d + 1, lo, n, l, h, hl, i => by
  show Tt.get (Bool.rec (.n (mkT d lo (n / 2) l) (lo + n / 2) (lhd (ldrop l (n / 2))) (mkT d (lo + n / 2 + 1) (n - n / 2 - 1) (ltl (ldrop l (n / 2))))) .e (Nat.beq n 0)) i = _
  rw [brec_beq]
  by_cases h0 : n = 0
  ·rw [if_pos h0, if_neg (by omega)]
   rfl
  ·rw [if_neg h0]
   show (Bool.rec (Bool.rec (Tt.get (mkT d (lo + n / 2 + 1) (n - n / 2 - 1) (ltl (ldrop l (n / 2)))) i) (Tt.get (mkT d lo (n / 2) l) i) (Nat.ble i (lo + n / 2))) (some (lhd (ldrop l (n / 2)))) (Nat.beq i (lo + n / 2)) : Option TypeInfo) = _
   have hp : 2 ^ (d + 1) = 2 * 2 ^ d := by rw [Nat.pow_succ]; omega
   have e1 : ltl (ldrop l (n / 2)) = l.drop (n / 2 + 1) := by
    rw [<- ldrop_eq l (n / 2 + 1)]
    rfl
   rw [brec_beq, brec_ble, mkT_get d lo (n / 2) l (by omega) (by omega) i, e1, mkT_get d _ _ _ (by omega) (by rw [List.length_drop]; omega) i]
   by_cases h1 : i = lo + n / 2
   ·subst h1
    rw [if_pos rfl, if_pos (by omega), ldrop_eq]
    have hlt : n / 2 < l.length := by omega
    rw [Nat.add_sub_cancel_left, List.getElem?_eq_getElem hlt, List.drop_eq_getElem_cons hlt]
    rfl
   ·rw [if_neg h1]
    by_cases h2 : i <= lo + n / 2
    ·rw [if_pos h2]
     by_cases h3 : lo <= i
     ·rw [if_pos (by omega), if_pos (by omega)]
     ·rw [if_neg (by omega), if_neg (by omega)]
    ·rw [if_neg h2]
     by_cases h3 : i < lo + n
     ·rw [if_pos (by omega), if_pos (by omega), List.getElem?_drop]
      congr 1
      omega
     ·rw [if_neg (by omega), if_neg (by omega)]
noncomputable def tyJ (P : PX) (l : List TypeInfo) (n : Nat) : Nat -> Option TypeInfo := fun t => Bool.rec (P.info? t) (Tt.get (mkT 12 0 n l) t) (Nat.ble (Nat.add t 1) n)
theorem tyJ_ok {P : PX} {l : List TypeInfo} {n : Nat} (h1 : P.types.toList = l) (h2 : l.length = n) (h3 : n < 4096) : P.info? = tyJ P l n := by
 funext t
 show _ = (Bool.rec (P.info? t) (Tt.get (mkT 12 0 n l) t) (Nat.ble (Nat.add t 1) n) : Option TypeInfo)
 rw [brec_ble]
 have hsz : P.types.size = n := by rw [<- Array.length_toList, h1, h2]
 by_cases h : t < n
 ·have e := mkT_get 12 0 n l (by simpa using h3) (Nat.le_of_eq h2.symm) t
  rw [if_pos (show Nat.add t 1 <= n from h), e, if_pos ⟨Nat.zero_le _, by rw [Nat.zero_add]; exact h⟩]
  have hlt : t < P.types.size := by rw [hsz]; exact h
  show (if t < P.types.size then P.types[t]? else _) = _
  rw [if_pos hlt, <- Array.getElem?_toList, h1]
  rfl
 ·rw [if_neg (show ¬ Nat.add t 1 <= n from h)]
end Go.Proofs.YtgaghaggiblabaaGreatDoor.Ev
namespace Go.Proofs.YtgaghaggiblabaaGreatDoor.Ev
open Go.RowKit
noncomputable def fsk (J : Nat -> Option TypeInfo) (n0 : Nat) (sz : Nat) : List Field -> Nat -> Bool := List.rec (fun a => Nat.beq a sz) (fun f _ ih a => and' (Nat.beq f.offset a) (ih (Nat.add a (szlJ J n0 (layJ J n0 f.type)))))
noncomputable def tyk (J : Nat -> Option TypeInfo) (n0 t : Nat) : Bool := match und J t with
 | some (.struct fs) => fsk J n0 (clo J t) fs.toList 0
 | some (.array n e) => Nat.beq (clo J t) (Nat.mul n (szlJ J n0 (layJ J n0 e)))
 | some _ => Nat.beq (clo J t) 1
 | none => true
noncomputable def tyks (J : Nat -> Option TypeInfo) (n0 n : Nat) : Bool := Nat.rec true (fun t ih => and' (tyk J n0 t) ih) n
theorem tyks_ok {J : Nat -> Option TypeInfo} {n0 : Nat} : ∀ {n : Nat}, tyks J n0 n = true -> ∀ t, t < n -> tyk J n0 t = true
 | 0, _, t, h => by omega
 | n + 1, h, t, ht => by
  obtain ⟨h1, h2⟩ := and'_ok h
  by_cases e : t = n
  ·subst e; exact h1
  ·exact tyks_ok h2 t (by omega)
theorem fsk_ok {P : PX} {sz : Nat} : ∀ {fs : List Field} {a : Nat}, fsk P.info? P.types.size sz fs a = true -> sz = a + szs P (fs.map fun f => lay P f.type) /\ ∀ i f, fs[i]? = some f -> f.offset = a + szs P ((fs.map fun f => lay P f.type).take i)
 | [], a, h => by
  refine ⟨?_, fun i f hf => by simp at hf⟩
  have := beq_true.1 h
  simp [szs, this]
 | f :: fs, a, h => by
  obtain ⟨h1, h2⟩ := and'_ok h
  replace h2 : fsk P.info? P.types.size sz fs (Nat.add a (szlJ P.info? P.types.size (layJ P.info? P.types.size f.type))) = true := h2
  rw [show szlJ P.info? P.types.size (layJ P.info? P.types.size f.type) = szl P (lay P f.type) by rw [layJ_eq, szlJ_eq]] at h2
  obtain ⟨h3, h4⟩ := fsk_ok h2
  have e : Nat.add a (szl P (lay P f.type)) = a + szl P (lay P f.type) := rfl
  rw [e] at h3 h4
  refine ⟨?_, ?_⟩
  ·rw [h3]
   simp only [szs, List.map_cons, List.sum_cons]
   omega
  ·intro i g hg
   cases i with
   | zero =>
    simp at hg
    subst hg
    have := beq_true.1 h1
    simp [szs, this]
   | succ i =>
    rw [h4 i g (by simpa using hg)]
    simp only [szs, List.map_cons, List.take_succ_cons, List.sum_cons]
    omega
theorem tyok_of {P : PX} (h : tyks P.info? P.types.size P.types.size = true) : TyOk P := by
 have key : ∀ t, tin P t = true -> tyk P.info? P.types.size t = true := fun t ht => tyks_ok h t (Nat.le_of_ble_eq_true ht)
 refine ⟨?_, ?_, ?_⟩
 ·intro t ls hc
  have ht := comps_tin hc
  have k := key t ht
  rw [comps_eq ht] at hc
  unfold tyk at k
  rw [und_eq] at k
  split at hc
  ·rename_i fs e
   rw [e] at k
   cases hc
   have := (fsk_ok k).1
   rw [clo_eq] at this
   rw [this]
   simp
  ·rename_i n el e
   rw [e] at k
   cases hc
   have := beq_true.1 k
   rw [clo_eq, layJ_eq, szlJ_eq] at this
   rw [this, szs_replicate]
   rfl
  ·cases hc
 ·intro t fs i f ht hu hf
  have k := key t ht
  unfold tyk at k
  rw [und_eq, hu] at k
  have := (fsk_ok k).2 i f (by simpa using hf)
  simpa using this
 ·intro t d ht hu hl
  have k := key t ht
  unfold tyk at k
  rw [und_eq, hu] at k
  rw [lay_eq ht, hu] at hl
  cases d <;> first | (cases hl; done) | exact (by have := beq_true.1 k; rw [clo_eq] at this; exact this)
theorem snd_of {P : PX} (hty : TyOk P) (hmx : P.follows .mixedOrders = true) {X : Nat × Nat × Nat} (hX : XsOk P X) {J : Nat -> Option TypeInfo} {n0 : Nat} (hJ : P.info? = J) (hn : P.types.size = n0) {f vs : Nat} {fn : Func} {fd : FD} (hf : P.funcs[f]? = some fn)
  (hname : (fn.name == "runtime.NumGoroutine") = false) (h : fok (mikJ J n0 (shk P) X) vs (oneTJ J n0) fn fd = true) : Snd P f fd := by
 refine ⟨⟨fn, hf, ?_, hname⟩, ?_⟩
 ·unfold fok at h
  split at h
  ·rename_i c hc
   rw [hc]; rfl
  ·cases h
 ·intro rec hrec hfn as wm s r vs' hk hi hw hv
  refine fok_ok hty hmx hX ?_ ?_ hf h hrec hfn hk hi hw hv
  ·intro i o hm
   rw [<- hJ, <- hn, mikJ_eq] at hm
   exact hm
  ·intro t ht
   rw [<- hJ, <- hn, oneTJ_eq] at ht
   exact ht
end Go.Proofs.YtgaghaggiblabaaGreatDoor.Ev
namespace Go.Proofs.YtgaghaggiblabaaGreatDoor.Ev
open Go.RowKit
section
variable {P : PX}
def CodeW (P : PX) (N : Fr) (V : Nat -> Prop) (rec : Rec) (c : C) (cd : Code) : Prop :=
 ∀ (ro : Option Nat) (wm : Nat) (s : St) (T : Tm) (a : Act) (kn : Tm -> Nat -> Hp -> Out) (kx : Nat -> Tm -> Nat -> Hp -> Out) (kr : Tm -> Nat -> Hp -> Out) (r : AV × Nat × Hp) (Q : Exit -> Act -> World -> Prop),
  Inv P s -> wm <= s.n -> TR P s.K s.ρ N T a -> Only V T -> code rec wm c T s.n s.H kn kx kr = some r ->
  (∀ T' a' t, TR P t.K t.ρ N T' a' -> Only V T' -> Ext P wm s t -> kn T' t.n t.H = some r -> Q .normal a' t.w) ->
  (∀ id T' a' t, TR P t.K t.ρ N T' a' -> Only V T' -> Ext P wm s t -> kx id T' t.n t.H = some r -> Q (.exit id) a' t.w) ->
  (∀ T' a' t, TR P t.K t.ρ N T' a' -> Only V T' -> Ext P wm s t -> kr T' t.n t.H = some r -> Q .ret a' t.w) -> cd.wpIn (Fw ro) 0 P Q a s.w
theorem CodeW.of {mr : List G -> List Nat -> Code -> Prop} {md : List D -> List Nat -> Code -> Prop} {N : Fr} {V : Nat -> Prop} {rec : Rec} (hreg : ∀ is outs c, mr is outs c -> RegW P N V (fun wm => gs rec wm is) outs c)
  (hdr : ∀ is outs c, md is outs c -> RegW P N V (fun wm => ds rec wm is []) outs c) {c : C} {cd : Code} (hm : MC mr md c cd) : CodeW P N V rec c cd := by
 intro ro wm s T a kn kx kr r Q hi hw ht ho hk hn hx hr
 exact code_ok hreg hdr hm hi hw ht ho hk hn hx hr
theorem CodeW.seq {N : Fr} {V : Nat -> Prop} {rec : Rec} {c1 c2 : C} {x y : Code} (h1 : CodeW P N V rec c1 x) (h2 : CodeW P N V rec c2 y) : CodeW P N V rec (.seq c1 c2) (.seq x y) := by
 intro ro wm s T a kn kx kr r Q hi hw ht ho hk hn hx hr
 replace hk : code rec wm c1 T s.n s.H (fun T n H => code rec wm c2 T n H kn kx kr) kx kr = some r := hk
 refine wpIn_seq (h1 ro wm s T a _ kx kr r _ hi hw ht ho hk ?_ hx hr)
 intro T' a' t q1 q2 q3 q4
 exact h2 ro wm t T' a' kn kx kr r _ q3.inv (Nat.le_trans hw q3.nle) q1 q2 q4 (fun T' a' t p1 p2 p3 p4 => hn T' a' t p1 p2 (q3.trans p3) p4) (fun id T' a' t p1 p2 p3 p4 => hx id T' a' t p1 p2 (q3.trans p3) p4)
  (fun T' a' t p1 p2 p3 p4 => hr T' a' t p1 p2 (q3.trans p3) p4)
theorem CodeW.mck (hty : TyOk P) (hmx : P.follows .mixedOrders = true) {X : Nat × Nat × Nat} (hX : XsOk P X) {J : Nat -> Option TypeInfo} {n0 : Nat} (hJ : P.info? = J) (hn : P.types.size = n0) {rec : Rec} (hrec : RecOk P rec) (hfn : RecFn P rec) {N : Fr} {vs : Nat} {c : C} {cd : Code}
  (h : mck (mikJ J n0 (shk P) X) N.n vs cd c = true) : CodeW P N (fun i => tb vs i = true) rec c cd := by
 have hM : ∀ i o, mikJ J n0 (shk P) X i o = true -> mik P X i o = true := by
  intro i o hm
  rw [<- hJ, <- hn, mikJ_eq] at hm
  exact hm
 refine CodeW.of ?_ ?_ (mck_ok (mi := fun i o => mik P X i o = true) hM h)
 ·rintro is outs c' ⟨id, ops, rfl, hr⟩
  obtain ⟨g1, g2⟩ := and'_ok hr
  obtain ⟨g3, g4⟩ := outk_ok g2
  have hg := gsk_ok (P := P) (ops := ops) (k := 0) hM (fun i o hi => by simpa using hi) g1
  rw [<- List.range_eq_range', Array.length_toList] at hg
  exact reg_ok hty (mik_ok hty hX hrec hfn) hg g3 g4
 ·rintro is outs c' ⟨id, ops, rfl, hr⟩
  obtain ⟨g1, g2⟩ := and'_ok hr
  obtain ⟨g2, g5⟩ := and'_ok g2
  obtain ⟨g3, g4⟩ := outk_ok g5
  exact dreg_ok hty hmx (mik_ok hty hX hrec hfn) (dsk_ok hM g1) (dstat_ok g2) g3 g4
theorem body_okW (hty : TyOk P) {rec : Rec} {f : Nat} {fd : FD} {fn : Func} {c : Code} {V : Nat -> Prop} (h1 : P.funcs[f]? = some fn) (h2 : fn.body = some c) (h3 : fd.np <= fn.ntmps) (h4 : ∀ i, i < fd.np -> V i) (h5 : All2 (fun r f => rvm P r f = true) fd.rs fn.results.toList) (h6 : CodeW P ⟨fn.ntmps, []⟩ V rec fd.code c)
  {as : List AV} {wm : Nat} {s : St} {r : AV × Nat × Hp} {vs : List Value} (h : body rec fd as wm s.n s.H = some r) (hi : Inv P s) (hw : wm <= s.n) (hv : All2 (VR P s.K s.ρ) as vs) : Calls P f vs.toArray s.w (CallPost P wm s r) := by
 obtain ⟨h0, h⟩ := brec_some h
 have hlen : as.length <= fd.np := by rw [<- len_eq]; exact Nat.ble_eq ▸ h0
 have hw' : (Mode.rec s.n s.n wm fd.mode : Nat) <= s.n := by cases fd.mode <;> first | exact Nat.le_refl _ | exact hw
 have hend : ∀ T' a' t, TR P t.K t.ρ ⟨fn.ntmps, []⟩ T' a' -> Only V T' -> Ext P (Mode.rec s.n s.n wm fd.mode) s t -> fin fd.mode fd.rs s.n s.H T' t.n t.H = some r ->
   a'.defers = [] /\ ∃ v, (results fn a'.tmps).run P t.w = .ok v t.w /\ CallPost P wm s r (.returned v) t.w := by
  intro T' a' t q1 _ q3 q4
  exact ⟨q1.df, fin_ok hty hi hw q1 h5 q3 q4⟩
 refine (callsIn_wide (n := 0)).1 (callsIn_of_wp (F := Fw none) h1 h2 trivial (h6 none (Mode.rec s.n s.n wm fd.mode) s _ _ _ _ _ r _ hi hw' (TR.start hv (Nat.le_trans hlen h3)) ?_ h ?_ ?_ ?_))
 ·intro i hni
  rw [lk_args, if_pos (Nat.zero_le _), Nat.sub_zero, List.getElem?_eq_none]
  ·rfl
  ·rcases Nat.lt_or_ge i fd.np with e | e
   ·exact absurd (h4 i e) hni
   ·omega
 ·exact hend
 ·intro id T' a' t _ _ _ q; cases q
 ·exact hend
end
end Go.Proofs.YtgaghaggiblabaaGreatDoor.Ev
namespace Go.Proofs.YtgaghaggiblabaaGreatDoor.Ev
open Go.RowKit
section
variable {P : PX} {s : St} {wm : Nat} {Kt : Kv} {r : AV × Nat × Hp}
theorem fa_any (hty : TyOk P) {x : AV} {v : Value} (hv : VR P s.K s.ρ x v) {rec : Rec} {T : Tm} {xo : O} (hx : ev T xo = x) {t f : Nat} {fd : Field} (hf : FldOk P t f fd) {u : Nat} (hu : u = lcode (lay P fd.type))
  (h : eFa (t + 1) xo f u rec T wm s.n s.H Kt = some r) : ∃ x' c off, v = .pointer (some ⟨c, off, none⟩) /\ VR P s.K s.ρ x' (.pointer (some ⟨c, off + fd.offset, none⟩)) /\ Kt x' s.n s.H = some r := by
 unfold eFa at h
 rw [hx] at h
 obtain ⟨ts, c1, c2, c3⟩ := comps_field hty hf
 cases x <;> first | (cases h; done) | skip
 ·rename_i b i p tt
  obtain ⟨hb, h'⟩ := brec_some h
  clear h
  replace hb := beq_true.1 hb
  have h := h'
  clear h'
  obtain ⟨l, c, hR, he⟩ := hv.known (by simp) (by simp)
  cases hR with
  | ptr g1 g2 g3 g4 =>
   cases g4
   rename_i c l' m tot of k
   have : k = some t := lcode_inj (by rw [<- hb]; rfl)
   subst this
   have := R.ptr (P := P) (K := s.K) g1 g2 (poff_snoc g3 c1 c2) .nil
   rw [snoc_eq, hu] at h
   refine ⟨_, c, i * szl P l' + of, he, ?_, h⟩
   rw [c3, Nat.add_assoc]
   exact VR.of (l := none) this
 ·rename_i x
  obtain ⟨hb, h'⟩ := brec_some h
  clear h
  replace hb := beq_true.1 hb
  have h := h'
  clear h'
  obtain ⟨z, hz, h'⟩ := gp_some h
  clear h
  have h := h'
  clear h'
  obtain ⟨l, c, hR, he⟩ := hv.known (by simp) (by simp)
  cases hR with
  | pv g1 g2 g3 =>
   cases g3
   rename_i l' cs c off
   have := lc_eq g2
   rw [<- hb] at this
   have hl : l' = some t := lcode_inj (by rw [<- this]; rfl)
   subst hl
   obtain ⟨oo, k, q1, q2, q3⟩ := g2.getp hty hz
   have hp := poff_snoc (P := P) (l := some t) (p := []) (off := 0) (T := t) (by rfl) c1 c2
   rw [List.nil_append, Nat.zero_add] at hp
   rw [hp] at q1
   cases q1
   obtain ⟨arr, f1, f2⟩ := g1
   have hfx : Fixed s.K c (off + szs P (ts.take f)) ((cs.drop (szs P (ts.take f))).take (szl P (lay P fd.type))) := by
    refine ⟨arr, f1, ?_⟩
    have hl : ((cs.drop (szs P (ts.take f))).take (szl P (lay P fd.type))).length = szl P (lay P fd.type) := by simp; omega
    rw [hl]
    conv => rhs; rw [<- f2]
    rw [take_drop_take _ _ _ _ _ q3]
   refine ⟨_, c, off, he, ?_, h⟩
   rw [c3]
   exact VR.of (l := none) (R.pv hfx q2 .nil)
theorem ld_any (hty : TyOk P) (hi : Inv P s) {x : AV} {v : Value} (hv : VR P s.K s.ρ x v) {rec : Rec} {T : Tm} {xo : O} (hx : ev T xo = x) (h : eLd xo rec T wm s.n s.H Kt = some r) :
  ∃ z c off u, v = .pointer (some ⟨c, off, none⟩) /\ VR P s.K s.ρ z u /\ s.w.cell? ⟨c, off, none⟩ = some u /\ Kt z s.n s.H = some r := by
 unfold eLd at h
 rw [hx] at h
 obtain ⟨z, l, c, off, cs, hv, hR, hl, hk⟩ := rd_ok hty hi hv h
 have hl0 : l = none := by
  have e := lc_lay hR
  cases z <;> first | (cases hk; done) | (cases l <;> first | rfl | (cases e; done)) | skip
  obtain ⟨h0, _⟩ := brec_some hk
  have := beq_true.1 h0
  cases l <;> first | rfl | (cases e; cases this)
 subst hl0
 obtain ⟨u, rfl⟩ := hR.single
 have hk' : Kt z s.n s.H = some r := by
  cases z <;> first | exact hk | (cases hk; done) | exact (brec_some hk).2
 have hc := hl.range 0 u rfl
 simp only [Nat.add_zero] at hc
 exact ⟨z, c, off, u, hv, VR.of (l := none) hR, hc, hk'⟩
theorem setRow_cell {w : World} {c off : Nat} {arr : Array Value} {e : TypeId} {v : Value} (h : w.heap[c]? = some (.cells arr e (0, 0))) (hf : off < arr.size) : w.setRow c (arr.toList.take off ++ [v] ++ arr.toList.drop (off + 1)).toArray = w.setCell ⟨c, off, none⟩ v := by
 have hlt : c < w.heap.size := (Array.getElem?_eq_some_iff.1 h).1
 have hg : w.heap[c] = .cells arr e (0, 0) := (Array.getElem?_eq_some_iff.1 h).2
 have hset : (arr.toList.take off ++ [v] ++ arr.toList.drop (off + 1)).toArray = arr.setIfInBounds off v := by
  apply Array.toList_inj.1
  simp only [Array.toList_setIfInBounds]
  rw [List.set_eq_take_append_cons_drop, if_pos (by simpa using hf)]
  simp
 unfold World.setRow World.setCell
 congr 1
 apply Array.ext
 ·simp
 ·intro i h1 h2
  simp only [Array.getElem_modify]
  split
  ·rename_i e1
   subst e1
   rw [hg, hset]
   rfl
  ·rfl
theorem st_any (hty : TyOk P) (hi : Inv P s) {x : AV} {v : Value} (hv : VR P s.K s.ρ x v) {rec : Rec} {T : Tm} {xo : O} (hx : ev T xo = x) {k : IntKind} {m : Int} (h : eSt xo (.c (.int k m)) rec T wm s.n s.H Kt = some r) :
  ∃ c off t, v = .pointer (some ⟨c, off, none⟩) /\ Ext P wm s t /\ Kt .top t.n t.H = some r /\ t.w = s.w.setCell ⟨c, off, none⟩ (.int k m) /\ s.w.frozen? ⟨c, off, none⟩ = false /\ (s.w.cell? ⟨c, off, none⟩).isSome = true := by
 replace h : wr wm s.H (ev T xo) (.int k m) (fun H => Kt .top s.n H) = some r := h
 rw [hx] at h
 have hR : R P s.K s.ρ [.int k m] [none] [.int k m] := .int .nil
 obtain ⟨c, off, t, hu, hext, hk, hn, arr, e, hw, hf, htw⟩ := wr_ok hty hi hv hR h
 have hf : off < arr.size := by simp at hf; omega
 refine ⟨c, off, t, hu, hext, by rw [hn]; exact hk, ?_, ?_, ?_⟩
 ·rw [htw]
  exact setRow_cell hw hf
 ·simp [World.frozen?, hw]
 ·simp [World.cell?, hw, hf]
end
end Go.Proofs.YtgaghaggiblabaaGreatDoor.Ev
namespace Go.Proofs.YtgaghaggiblabaaGreatDoor.Ev
open Go.RowKit Go.ChangeMaps
section
variable {P : PX}
theorem setBlock_other {w : World} {r c : Nat} {o : Obj} (h : c ≠ r) : (setBlock w r o).heap[c]? = w.heap[c]? := by
 show (w.heap.setIfInBounds r o)[c]? = _
 rw [Array.getElem?_setIfInBounds_ne (Ne.symm h)]
theorem setBlock_same {w : World} {r : Nat} {o o' : Obj} (h : w.heap[r]? = some o') : (setBlock w r o).heap[r]? = some o := by
 show (w.heap.setIfInBounds r o)[r]? = _
 rw [Array.getElem?_setIfInBounds_self_of_lt (Array.getElem?_eq_some_iff.1 h).1]
theorem Ext.iter {wm : Nat} {s : St} (h : Inv P s) (m : Option Nat) (a : Nat) (b : Array Nat) (d : Nat) :
  Ext P wm s ⟨s.K, upd s.ρ s.n (s.w.heap.size, .it), s.n + 1, s.H, s.w.alloc (.mapIter m a b d)⟩ := by
 have hle : Rle s.ρ (upd s.ρ s.n (s.w.heap.size, .it)) := fun b x e => by
  rw [upd_other _ _ (by have := h.rdom _ _ e; omega), e]
 have hat : ∀ b ab, hget b s.H = some ab -> upd s.ρ s.n (s.w.heap.size, .it) b = s.ρ b := fun b ab e => upd_other _ _ (by have := h.dom e; omega)
 refine ⟨⟨?_, ⟨?_, ?_⟩, ?_⟩, fun _ _ e => e, hle, fun b hb => upd_other _ _ (by omega), by simp, ?_, ?_, rfl, rfl, rfl, fun _ _ => rfl, fun _ _ e => e, fun _ _ e => .inl e, ?_⟩
 ·intro c a e
  obtain ⟨t, fz, h1⟩ := h.kok c a e
  exact ⟨t, fz, by rw [heap_alloc_lt _ _ (Array.getElem?_eq_some_iff.1 h1).1]; exact h1⟩
 ·intro b ab' e
  obtain ⟨c, k', o', h1, h2, h3, h4⟩ := h.hr.blk b ab' e
  exact ⟨c, k', o', hle _ _ h1, h2, by rw [heap_alloc_lt _ _ (Array.getElem?_eq_some_iff.1 h3).1]; exact h3, h4.mono (fun _ _ e => e) hle⟩
 ·intro b b' ab1 ab2 c k1 k2 e1 e2 e3 e4
  dsimp only at e1 e2 e3 e4
  rw [hat _ _ e1] at e3
  rw [hat _ _ e2] at e4
  exact h.hr.inj b b' ab1 ab2 c k1 k2 e1 e2 e3 e4
 ·intro b x e
  dsimp only at e
  rcases Nat.lt_or_ge b s.n with hb | hb
  ·exact Nat.lt_succ_of_lt hb
  ·rcases Nat.lt_or_eq_of_le hb with hb | hb
   ·rw [upd_other _ _ (by omega)] at e
    exact Nat.lt_succ_of_lt (h.rdom _ _ e)
   ·show b < s.n + 1
    omega
 ·intro c hc _
  exact heap_alloc_lt _ _ hc
 ·show s.w.heap.size <= (s.w.heap.push _).size
  simp
 ·rintro c ⟨b, ab, k, e1, e2⟩
  dsimp only at e1 e2
  rw [hat _ _ e1] at e2
  exact .inr ⟨b, ab, k, e1, e2⟩
theorem Ext.step {wm : Nat} {s t : St} (h : Ext P wm s t) {r : Nat} (hr : s.w.heap.size <= r) {m : Option Nat} {a : Nat} {b : Array Nat} {d : Nat} (ht : t.w.heap[r]? = some (.mapIter m a b d)) (m' : Option Nat) (a' : Nat) (b' : Array Nat) (d' : Nat) :
  Ext P wm s ⟨t.K, t.ρ, t.n, t.H, setBlock t.w r (.mapIter m' a' b' d')⟩ := by
 refine ⟨⟨?_, ⟨?_, h.inv.hr.inj⟩, h.inv.rdom⟩, h.kle, h.rle, h.rlt, h.nle, ?_, ?_, h.os, h.tape, h.out, h.wmk, h.sub, h.knew, h.rnew⟩
 ·intro c x e
  obtain ⟨ty, fz, h1⟩ := h.inv.kok c x e
  refine ⟨ty, fz, ?_⟩
  show (setBlock t.w r _).heap[c]? = _
  rw [setBlock_other (fun e => by subst e; rw [ht] at h1; cases h1)]
  exact h1
 ·intro b ab e
  obtain ⟨c, k, o, h1, h2, h3, h4⟩ := h.inv.hr.blk b ab e
  refine ⟨c, k, o, h1, h2, ?_, h4⟩
  show (setBlock t.w r _).heap[c]? = _
  rw [setBlock_other (fun e => by
   subst e
   rw [ht] at h3
   cases h3
   cases ab <;> cases k <;> simp only [BR] at h4)]
  exact h3
 ·intro c hc hi
  show (setBlock t.w r _).heap[c]? = _
  rw [setBlock_other (by omega)]
  exact h.frame c hc hi
 ·show s.w.heap.size <= (t.w.heap.setIfInBounds r _).size
  simpa using h.size
structure Is (o : Oper) (d : Nat) (op : Op) : Prop where
 dst : o.dst = some d
 op_ : o.op = op
 guard : o.guard = none
theorem raw_step {ro : Option Nat} {rest : List Oper} {arr : Array Oper} {Q : Exit -> Act -> World -> Prop} {a : Act} {w w' : World} {o : Oper} {d : Nat} {op : Op} {v : Value} (h : Is o d op) (hrun : (execOp a.eval o).run P w = .ok (.value v) w')
  (hk : wpListIn (Fw ro) 0 P arr Q rest (a.put (some d) v) w') : wpListIn (Fw ro) 0 P arr Q (o :: rest) a w :=
 wpListIn_plain h.guard fun K hK => wpIn_of hrun (fun d e => by cases e) (hK _ _ (by rw [h.dst]; exact hk))
theorem eval_put {a : Act} {d : Nat} {v : Value} (h : d < a.tmps.size) : (a.put (some d) v).eval (.tmp d) = v := by
 simp [Act.put, Act.eval, h]
theorem TR.drop {K : Kap} {ρ : Rho} {N : Fr} {T T' : Tm} {a : Act} (h : TR P K ρ N T a) (hl : ∀ i, lk i T' = .top \/ lk i T' = lk i T) : TR P K ρ N T' a :=
 ⟨h.size, h.df, fun i => by
  rcases hl i with e | e
  ·rw [e]; exact .mkTop _
  ·rw [e]; exact h.at_ i⟩
theorem VR.mapAt {K : Kap} {ρ : Rho} {b c : Nat} {v : Value} (h : VR P K ρ (.mp b) v) (hb : ρ b = some (c, .map)) : v = .map (some c) := by
 obtain ⟨l, cs, hR, rfl⟩ := h.known (by simp) (by simp)
 cases hR with
 | mpm g1 g2 => cases g2; rw [hb] at g1; cases g1; rfl
 | mpi g1 g2 => rw [hb] at g1; cases g1
theorem VR.itAt {K : Kap} {ρ : Rho} {b c : Nat} {v : Value} (h : VR P K ρ (.mp b) v) (hb : ρ b = some (c, .it)) : v = .pointer (some ⟨c, 0, none⟩) := by
 obtain ⟨l, cs, hR, rfl⟩ := h.known (by simp) (by simp)
 cases hR with
 | mpi g1 g2 => cases g2; rw [hb] at g1; cases g1; rfl
 | mpm g1 g2 => rw [hb] at g1; cases g1
def mrCode (i1 i2 i3 : Nat) (o1 o2 o3 o4 o5 o6 o7 : Oper) (x2 x3 : Nat) (rest : Code) : Code :=
 .seq (.region i1 #[o1, o2] false) (.block x2 (.loop (.seq (.region i2 #[o3, o4] false) (.seq (.cond (.tmp 39) .skip (.exit x2)) (.block x3 (.seq (.region i3 #[o5, o6, o7] false) rest))))))
end
end Go.Proofs.YtgaghaggiblabaaGreatDoor.Ev
namespace Go.Proofs.YtgaghaggiblabaaGreatDoor.Ev
open Go.RowKit Go.ChangeMaps
section
variable {P : PX}
theorem hdel_some {bb : Nat} {H : Hp} {b : Nat} {ab : AB} (h : hget b (hdel bb H) = some ab) : b ≠ bb /\ hget b H = some ab := by
 rw [hget_hdel] at h
 split at h
 ·cases h
 ·rename_i e; exact ⟨fun e' => e (by first | exact e' | exact e'.symm), h⟩
theorem Inv.hide {s : St} (hi : Inv P s) (bb : Nat) : Inv P ⟨s.K, s.ρ, s.n, hdel bb s.H, s.w⟩ :=
 ⟨hi.kok, ⟨fun b ab e => hi.hr.blk b ab (hdel_some e).2, fun b b' x y c k k' e e' => hi.hr.inj b b' x y c k k' (hdel_some e).2 (hdel_some e').2⟩, hi.rdom⟩
theorem unhide {s u : St} {wm bb : Nat} {ab : AB} (hi : Inv P s) (hb : hget bb s.H = some ab) (he : Ext P wm ⟨s.K, s.ρ, s.n, hdel bb s.H, s.w⟩ u) :
  ∃ ρ', Rle u.ρ ρ' /\ Ext P wm s ⟨u.K, ρ', u.n, (bb, ab) :: u.H, u.w⟩ := by
 have hdb : hget bb (hdel bb s.H) = none := by rw [hget_hdel]; simp
 have hub : hget bb u.H = none := he.sub bb (hi.dom hb) hdb
 have hg : ∀ b, hget b ((bb, ab) :: u.H) = if bb = b then some ab else hget b u.H := fun b => rfl
 have hd : ∀ b, b ≠ bb -> hget b (hdel bb s.H) = hget b s.H := by
  intro b hne
  rw [hget_hdel]
  split
  ·rename_i e; exact absurd e (by first | exact hne | exact hne.symm)
  ·rfl
 obtain ⟨ρ', p1, p2, p3, p4⟩ := frame_ok (P := P) (K := s.K) (ρ := s.ρ) (N := s.n) (N' := u.n) (m := s.n) (m' := u.n) (wm := wm) (wm' := wm) (n0 := s.n) (H := s.H) (V := hdel bb s.H) (H' := (bb, ab) :: u.H) (w := s.w) (t := u)
  hi he.nle (Nat.le_refl _) (Nat.le_refl _) (Nat.le_refl _)
  (fun b => by
   by_cases e : b = bb
   ·subst e; exact .inl hdb
   ·exact .inr (hd b e))
  (fun b h1 _ => by
   cases e : s.ρ b with
   | none => rfl
   | some x => have := hi.rdom b x e; omega)
  (by rw [below_all hi]; exact he) rfl
  (fun b x e => by
   rw [hg]
   split
   ·rename_i e'; subst e'; rw [hub] at e; cases e
   ·exact e)
  (fun b e1 e2 => by
   rw [hg]
   split
   ·rename_i e'; subst e'; exact hb.symm
   ·rename_i e'
    rw [e1, <- hd b (Ne.symm e'), e2])
  (fun b e1 e2 => by
   rw [hg]
   split
   ·rename_i e'; subst e'; exact absurd hdb e2
   ·exact e1)
 exact ⟨ρ', p2, p4.inv, p4.kle, p4.rle, p4.rlt, p4.nle, p4.frame, p4.size, p4.os, p4.tape, p4.out, p4.wmk, p4.sub, p4.knew, p4.rnew⟩
end
end Go.Proofs.YtgaghaggiblabaaGreatDoor.Ev
namespace Go.Proofs.YtgaghaggiblabaaGreatDoor.Ev
open Go.RowKit Go.ChangeMaps
section
variable {P : PX}
theorem mr_ok {N : Fr} (hN : 41 < N.n) {V : Nat -> Prop} (hV : V 8 /\ V 37 /\ ¬ V 36 /\ ¬ V 38 /\ ¬ V 39 /\ ¬ V 40 /\ ¬ V 41) {rec : Rec} {b : C} {rest : Code} (hb : CodeW P N V rec b rest) {tm k e : TypeId} (hty : P.underlying tm = some (.map k e)) {o1 o2 o3 o4 o5 o6 o7 : Oper}
  (h1 : Is o1 36 (.move (.tmp 5))) (h2 : Is o2 37 (.range tm (.tmp 36))) (h3 : Is o3 38 (.next (.tmp 37) false)) (h4 : Is o4 39 (.extract (.tmp 38) 0)) (h5 : Is o5 40 (.entry (.tmp 37))) (h6 : Is o6 41 (.extract (.tmp 40) 0)) (h7 : Is o7 8 (.assign (.tmp 41)))
  {i1 i2 i3 x2 x3 : Nat} : CodeW P N V rec (.mr 5 37 8 b) (mrCode i1 i2 i3 o1 o2 o3 o4 o5 o6 o7 x2 x3 rest) := by
 obtain ⟨hV8, hV37, n36, n38, n39, n40, n41⟩ := hV
 intro ro wm s T a kn kx kr r Q hi hw ht ho hK hn hx hr
 replace hK : (match lk 5 T with | .mp b' => hk b' s.H (fun ab => mes ab fun es => map1 es fun p => match p with | none => kn ((37, .top) :: T) (Nat.add s.n 1) s.H | some k => (match k with | .int j i => code rec wm b ((8, .int j i) :: (37, .mp s.n) :: T) (Nat.add s.n 1) (hdel b' s.H) (fun T n' H => match lk 37 T with | .mp q => Bool.rec none (kn T n' ((b', ab) :: H)) (Nat.beq q s.n) | _ => none) (fun _ _ _ _ => none) (fun T n' H => kr T n' ((b', ab) :: H)) | _ => none)) | _ => none) = some r := hK
 have v5 := ht.at_ 5
 split at hK
 ·rename_i bb hbb
  rw [hbb] at v5
  obtain ⟨ab, hbH, hK⟩ := hk_some hK
  obtain ⟨c, kk, o, g1, g2, g3, g4⟩ := hi.hr.blk bb ab hbH
  cases ab <;> first | (cases hK; done) | skip
  rename_i es
  cases kk <;> cases o <;> simp only [BR] at g4
  rename_i ents clk
  obtain ⟨g4, g5⟩ := g4
  have e5 : a.eval (.tmp 5) = .map (some c) := v5.mapAt g1
  have E1 := Ext.iter (wm := wm) hi (some c) clk #[] clk
  have hsz := ht.size
  have hrun2 := run_range_map (P := P) s.w tm k e c ents clk hty g3
  have c1 : c < s.w.heap.size := (Array.getElem?_eq_some_iff.1 g3).1
  have hc1 : (s.w.alloc (.mapIter (some c) clk #[] clk)).heap[c]? = some (.map ents clk) := by rw [heap_alloc_lt _ _ c1]; exact g3
  have hr1 : (s.w.alloc (.mapIter (some c) clk #[] clk)).heap[s.w.heap.size]? = some (.mapIter (some c) clk #[] clk) := heap_alloc_new _ _
  have hρ1 : upd s.ρ s.n (s.w.heap.size, .it) s.n = some (s.w.heap.size, .it) := upd_same _ _ _
  obtain ⟨s1, hs1⟩ : ∃ s1 : St, s1 = ⟨s.K, upd s.ρ s.n (s.w.heap.size, .it), s.n + 1, s.H, s.w.alloc (.mapIter (some c) clk #[] clk)⟩ := ⟨_, rfl⟩
  have hsw : s1.w = s.w.alloc (.mapIter (some c) clk #[] clk) := by rw [hs1]
  have hsn : s1.n = s.n + 1 := by rw [hs1]
  have hsH : s1.H = s.H := by rw [hs1]
  have hsρ : s1.ρ = upd s.ρ s.n (s.w.heap.size, .it) := by rw [hs1]
  rw [<- hs1] at E1
  rw [<- hsw] at hc1 hr1 hrun2
  rw [<- hsρ] at hρ1
  clear hs1 hsw
  unfold mrCode
  refine wpIn_seq (wpIn_region_list ?_)
  refine raw_step h1 (w' := s.w) (v := .map (some c)) (by simp [execOp, h1.op_, e5]) ?_
  refine raw_step h2 (w' := s1.w) (v := .pointer (some ⟨s.w.heap.size, 0, none⟩)) (by
   simp only [execOp, h2.op_, eval_put (a := a) (d := 36) (v := .map (some c)) (by omega), Sem.run_bind, hrun2, Result.andThen_ok, Sem.run_pure]) ?_
  refine wpListIn_nil ?_
  have T1 := ((ht.mono E1.kle E1.rle).put (d := 36) (by omega) (.mkTop (.map (some c)))).put (d := 37) (by omega) (VR.of (l := none) (R.mpi (P := P) (K := s1.K) hρ1 .nil))
  refine wpIn_block ?_
  refine wp_loop_count (fun m a w => ∃ T' t seen, w = t.w /\ TR P t.K t.ρ N T' a /\ Ext P wm s t /\ lk 37 T' = .mp s.n /\ t.ρ s.n = some (s.w.heap.size, .it) /\ t.w.heap[s.w.heap.size]? = some (.mapIter (some c) clk seen clk) /\ t.w.heap[c]? = some (.map ents clk) /\
   (((leftOf ents seen).size = 0 /\ ∃ Tk, (∀ i, lk i Tk = .top \/ (i ≠ 38 /\ i ≠ 39 /\ lk i Tk = lk i T')) /\ Only V Tk /\ kn Tk t.n t.H = some r)
    \/ (m = 1 /\ seen = #[] /\ t = s1 /\ T' = (37, .mp s.n) :: (36, .top) :: T /\ ∃ e j i, ents = #[e] /\ e.key = .int j i /\ code rec wm b ((8, .int j i) :: (37, .mp s.n) :: T) (Nat.add s.n 1) (hdel bb s.H) (fun T n' H => match lk 37 T with | .mp q => Bool.rec none (kn T n' ((bb, .map es) :: H)) (Nat.beq q s.n) | _ => none) (fun _ _ _ _ => none) (fun T n' H => kr T n' ((bb, .map es) :: H)) = some r))) 1 ?_ ?_
  ·refine ⟨_, s1, #[], rfl, T1, E1, rfl, hρ1, hr1, hc1, ?_⟩
   generalize hl : ents.toList = l at g4
   have hents : ents = l.toArray := by rw [<- hl]
   cases es with
   | nil =>
    cases g4
    subst hents
    refine .inl ⟨rfl, (37, .top) :: T, ?_, ?_, ?_⟩
    ·intro i
     by_cases e37 : i = 37
     ·subst e37; exact .inl rfl
     ·by_cases e36 : i = 36
      ·subst e36; exact .inl (ho 36 n36)
      ·by_cases e38 : i = 38
       ·subst e38; exact .inl (ho 38 n38)
       ·by_cases e39 : i = 39
        ·subst e39; exact .inl (ho 39 n39)
        ·refine .inr ⟨e38, e39, ?_⟩
         simp only [lk_cons, if_neg (Ne.symm e37), if_neg (Ne.symm e36)]
    ·intro i hi'
     rw [lk_cons]
     split
     ·rfl
     ·exact ho i hi'
    ·rw [hsn, hsH]
     exact hK
   | cons p es =>
    cases g4 with
    | cons p1 p2 =>
     rename_i e0 l
     cases es with
     | cons p' es => cases hK
     | nil =>
      cases p2
      replace hK : (match p.1 with | .int j i => code rec wm b ((8, .int j i) :: (37, .mp s.n) :: T) (Nat.add s.n 1) (hdel bb s.H) (fun T n' H => match lk 37 T with | .mp q => Bool.rec none (kn T n' ((bb, .map [p]) :: H)) (Nat.beq q s.n) | _ => none) (fun _ _ _ _ => none) (fun T n' H => kr T n' ((bb, .map [p]) :: H)) | _ => none) = some r := hK
      obtain ⟨⟨k0, q1, q2⟩, _⟩ := p1
      split at hK
      ·rename_i j i hji
       rw [hji] at q1
       cases q1 with
       | int q1 =>
        cases q1
        exact .inr ⟨rfl, rfl, rfl, rfl, e0, j, i, hents, q2, hK⟩
      ·cases hK
  ·rintro m a2 w ⟨T', t, seen, rfl, q1, q2, q3, q4, q5, q6, q7⟩
   have hsz2 := q1.size
   have v37 : a2.eval (.tmp 37) = .pointer (some ⟨s.w.heap.size, 0, none⟩) := by
    have := q1.at_ 37
    rw [q3] at this
    exact this.itAt q4
   refine wpIn_seq (wpIn_region_list ?_)
   rcases run_next_at (P := P) t.w o3.type s.w.heap.size c clk clk seen ents clk q5 q6 g5 (Nat.le_refl _) with ⟨z1, z2⟩ | ⟨e1, z1, w1, z2, z3⟩
   ·refine raw_step h3 (w' := t.w) (v := .tuple #[.bool false]) (by simp only [execOp, h3.op_, v37, Sem.run_bind, z2, Result.andThen_ok, Sem.run_pure]) ?_
    refine raw_step h4 (w' := t.w) (v := .bool false) (by
     simp [execOp, h4.op_, eval_put (a := a2) (d := 38) (v := .tuple #[.bool false]) (by omega), Instr.extract]) ?_
    refine wpListIn_nil ?_
    refine wpIn_seq (wpIn_cond_false (eval_put (by simp [Act.put]; omega)) (wpIn_exit ?_))
    have T2 := (q1.put (d := 38) (by omega) (.mkTop (.tuple #[.bool false]))).put (d := 39) (by omega) (VR.mkBool false)
    rcases q7 with ⟨_, Tk, y1, y2, y3⟩ | ⟨_, rfl, _, _, e0, j, i, rfl, _⟩
    ·have := hn Tk _ t (T2.drop fun i => by
      rcases y1 i with y | ⟨ya, yb, y⟩
      ·exact .inl y
      ·refine .inr ?_
       rw [y, lk_cons, if_neg (Ne.symm yb), lk_cons, if_neg (Ne.symm ya)]) y2 q2 y3
     show (if x2 = x2 then Q .normal _ t.w else _)
     rw [if_pos rfl]
     exact this
    ·simp [leftOf] at z1
   ·rcases q7 with ⟨y0, _⟩ | ⟨rfl, rfl, rfl, rfl, e0, j, i, rfl, ek, hb'⟩
    ·have := List.length_pos_of_mem z1
     simp at this
     omega
    ·have : e1 = e0 := by simpa [leftOf] using z1
     subst this
     have E0 : Ext P wm s ⟨t.K, t.ρ, t.n, t.H, w1⟩ := by
      rcases z2 with rfl | rfl
      ·exact q2
      ·exact q2.trans (Ext.world q2.inv rfl rfl rfl rfl)
     have hr0 : w1.heap[s.w.heap.size]? = some (.mapIter (some c) clk #[] clk) := by rcases z2 with rfl | rfl <;> exact q5
     have hc0 : w1.heap[c]? = some (.map #[e1] clk) := by rcases z2 with rfl | rfl <;> exact q6
     have E2 := E0.step (Nat.le_refl _) hr0 (some c) clk #[e1.born] clk
     have hr2 := setBlock_same (o := .mapIter (some c) clk #[e1.born] clk) hr0
     have hc2 : (setBlock w1 s.w.heap.size (.mapIter (some c) clk #[e1.born] clk)).heap[c]? = some (.map #[e1] clk) := by
      rw [setBlock_other (by omega)]; exact hc0
     have z3' : (Instr.next (.pointer (some ⟨s.w.heap.size, 0, none⟩)) false o3.type).run P t.w = .ok (.tuple #[.bool true, e1.key, e1.val]) (setBlock w1 s.w.heap.size (.mapIter (some c) clk #[e1.born] clk)) := z3
     clear z3
     generalize setBlock w1 s.w.heap.size (.mapIter (some c) clk #[e1.born] clk) = w2 at E2 hr2 hc2 z3'
     have hent := run_entry_at (P := P) w2 s.w.heap.size c clk #[] #[e1] clk e1 hr2 hc2 (by simp) (by simp)
     refine raw_step h3 (w' := w2) (v := .tuple #[.bool true, e1.key, e1.val]) (by simp only [execOp, h3.op_, v37, Sem.run_bind, z3', Result.andThen_ok, Sem.run_pure]) ?_
     refine raw_step h4 (w' := w2) (v := .bool true) (by
      simp [execOp, h4.op_, eval_put (a := a2) (d := 38) (v := .tuple #[.bool true, e1.key, e1.val]) (by omega), Instr.extract]) ?_
     refine wpListIn_nil ?_
     refine wpIn_seq (wpIn_cond_true (eval_put (by simp [Act.put]; omega)) (wpIn_skip ?_))
     have T2 := (q1.put (d := 38) (by omega) (.mkTop (.tuple #[.bool true, e1.key, e1.val]))).put (d := 39) (by omega) (VR.mkBool true)
     generalize ha3 : (a2.put (some 38) (.tuple #[.bool true, e1.key, e1.val])).put (some 39) (.bool true) = a3 at T2
     have hsz3 := T2.size
     have v37' : a3.eval (.tmp 37) = .pointer (some ⟨s.w.heap.size, 0, none⟩) := by
      have := T2.at_ 37
      exact VR.itAt (this : VR P _ _ (.mp s.n) _) q4
     show (Code.block x3 _).wpIn _ _ _ _ a3 w2
     refine wpIn_block (wpIn_seq (wpIn_region_list ?_))
     refine raw_step h5 (w' := w2) (v := .tuple #[e1.key, e1.val]) (by simp only [execOp, h5.op_, v37', Sem.run_bind, hent, Result.andThen_ok, Sem.run_pure]) ?_
     refine raw_step h6 (w' := w2) (v := .int j i) (by
      have := eval_put (a := a3) (d := 40) (v := .tuple #[e1.key, e1.val]) (by omega)
      simp only [execOp, h6.op_, this]
      simp [Instr.extract, ek]) ?_
     refine raw_step h7 (w' := w2) (v := .int j i) (by
      have := eval_put (a := a3.put (some 40) (.tuple #[e1.key, e1.val])) (d := 41) (v := .int j i) (by simp [Act.put]; omega)
      simp [execOp, h7.op_, this]) ?_
     refine wpListIn_nil ?_
     have T3 := ((T2.put (d := 40) (by omega) (.mkTop (.tuple #[e1.key, e1.val]))).put (d := 41) (by omega) (VR.mkInt j i)).put (d := 8) (by omega) (VR.mkInt j i)
     have T4 := T3.drop (T' := (8, .int j i) :: (37, .mp s.n) :: T) (by
      intro x
      by_cases x8 : x = 8
      ·subst x8; exact .inr rfl
      ·by_cases x37 : x = 37
       ·subst x37; exact .inr rfl
       ·by_cases x36 : x = 36
        ·subst x36; exact .inl (ho 36 n36)
        ·by_cases x38 : x = 38
         ·subst x38; exact .inl (ho 38 n38)
         ·by_cases x39 : x = 39
          ·subst x39; exact .inl (ho 39 n39)
          ·by_cases x40 : x = 40
           ·subst x40; exact .inl (ho 40 n40)
           ·by_cases x41 : x = 41
            ·subst x41; exact .inl (ho 41 n41)
            ·refine .inr ?_
             simp only [lk_cons, if_neg (Ne.symm x8), if_neg (Ne.symm x37), if_neg (Ne.symm x36), if_neg (Ne.symm x38), if_neg (Ne.symm x39), if_neg (Ne.symm x40), if_neg (Ne.symm x41)])
     have O4 : Only V ((8, .int j i) :: (37, .mp s.n) :: T) := by
      intro x hx'
      rw [lk_cons, if_neg (fun e => by subst e; exact hx' hV8), lk_cons, if_neg (fun e => by subst e; exact hx' hV37)]
      exact ho x hx'
     have hbH2 : hget bb t.H = some (.map es) := by rw [hsH]; exact hbH
     have hI := E2.inv.hide bb
     have cR : ∀ (c' : Nat), (c' = s.w.heap.size \/ c' = c) -> ¬ Img t.ρ (hdel bb t.H) c' := by
      rintro c' hc' ⟨b', ab', k', w1', w2'⟩
      obtain ⟨n1, n2⟩ := hdel_some w1'
      rcases hc' with rfl | rfl
      ·obtain ⟨c3, k3, o3', m1, m2, m3, m4⟩ := E2.inv.hr.blk b' ab' n2
       have m1' : t.ρ b' = some (c3, k3) := m1
       rw [w2'] at m1'
       cases m1'
       have m3' : w2.heap[s.w.heap.size]? = some o3' := m3
       rw [hr2] at m3'
       cases m3'
       cases ab' <;> cases k' <;> simp only [BR] at m4
      ·exact n1 (E2.inv.hr.inj b' bb ab' (.map es) c' k' .map n2 hbH2 w2' (E1.rle _ _ g1))
     have hfin : ∀ T5 a5 u, TR P u.K u.ρ N T5 a5 -> Ext P wm ⟨t.K, t.ρ, t.n, hdel bb t.H, w2⟩ u -> ∃ v : St, v.w = u.w /\ v.n = u.n /\ v.H = (bb, .map es) :: u.H /\ TR P v.K v.ρ N T5 a5 /\ Ext P wm s v /\ v.ρ s.n = some (s.w.heap.size, .it) /\ v.w.heap[s.w.heap.size]? = some (.mapIter (some c) clk #[e1.born] clk) /\ v.w.heap[c]? = some (.map #[e1] clk) := by
      intro T5 a5 u p1 p3
      obtain ⟨ρ', R1, E4⟩ := unhide (s := ⟨t.K, t.ρ, t.n, t.H, w2⟩) E2.inv hbH2 p3
      refine ⟨⟨u.K, ρ', u.n, (bb, .map es) :: u.H, u.w⟩, rfl, rfl, rfl, p1.mono (fun _ _ e => e) R1, E2.trans E4, R1 _ _ (p3.rle _ _ q4), ?_, ?_⟩
      ·exact (p3.frame _ (Array.getElem?_eq_some_iff.1 hr2).1 (cR _ (.inl rfl))).trans hr2
      ·exact (p3.frame _ (Array.getElem?_eq_some_iff.1 hc2).1 (cR _ (.inr rfl))).trans hc2
     have hb2 : code rec wm b ((8, .int j i) :: (37, .mp s.n) :: T) t.n (hdel bb t.H) (fun T n' H => match lk 37 T with | .mp q => Bool.rec none (kn T n' ((bb, .map es) :: H)) (Nat.beq q s.n) | _ => none) (fun _ _ _ _ => none) (fun T n' H => kr T n' ((bb, .map es) :: H)) = some r := by
      rw [hsn, hsH]; exact hb'
     refine hb ro wm ⟨t.K, t.ρ, t.n, hdel bb t.H, w2⟩ _ _ _ _ _ r _ hI (Nat.le_trans hw E2.nle) T4 O4 hb2 ?_ ?_ ?_
     ·intro T5 a5 u p1 p2 p3 p4
      obtain ⟨v, w5, n5, H5, y1, y2, y3, y4, y5⟩ := hfin T5 a5 u p1 p3
      split at p4
      ·rename_i q hq
       obtain ⟨y6, p6⟩ := brec_some p4
       clear p4
       have := beq_true.1 y6
       subst this
       rw [<- w5]
       refine ⟨0, by omega, T5, v, #[e1.born], rfl, y1, y2, hq, y3, y4, y5, .inl ⟨by simp [leftOf], T5, fun i => ?_, p2, by rw [n5, H5]; exact p6⟩⟩
       by_cases e38 : i = 38
       ·subst e38; exact .inl (p2 38 n38)
       ·by_cases e39 : i = 39
        ·subst e39; exact .inl (p2 39 n39)
        ·exact .inr ⟨e38, e39, rfl⟩
      ·cases p4
     ·intro id T5 a5 u _ _ _ p4
      cases p4
     ·intro T5 a5 u p1 p2 p3 p4
      obtain ⟨v, w5, n5, H5, y1, y2, y3, y4, y5⟩ := hfin T5 a5 u p1 p3
      rw [<- w5]
      exact hr T5 a5 v y1 p2 y2 (by rw [n5, H5]; exact p4)
 ·cases hK
end
end Go.Proofs.YtgaghaggiblabaaGreatDoor.Ev
