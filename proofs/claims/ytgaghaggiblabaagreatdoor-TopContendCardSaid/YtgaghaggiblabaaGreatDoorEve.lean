/- Known calls, loops over iterators, code that differs in known places, tags. No condition. -/
import Derived.Test.YtgaghaggiblabaaGreatDoorEvd
import Derived.RangeFuncLeaves
import Derived.RangeFuncRecord
import Derived.TacticsIn
set_option linter.all false
namespace Go.Proofs.YtgaghaggiblabaaGreatDoor.Ev
open Go.RowKit
def Knows (P : PX) (f : Nat) (as : List AV) (r : AV) : Prop :=
 FnOk P f /\ ∀ (wm : Nat) (s : St) (vs : List Value), Inv P s -> wm <= s.n -> All2 (VR P s.K s.ρ) as vs -> Calls P f vs.toArray s.w (CallPost P wm s (r, s.n, s.H))
noncomputable def avl (rec : AV -> AV -> Bool) (l : List AV) : List AV -> Bool := List.rec (fun m => match m with | [] => true | _ => false) (fun a _ ih m => match m with | b :: m => and' (rec a b) (ih m) | [] => false) l
noncomputable def bqB (a b : Bool) : Bool := Bool.rec (not' b) b a
noncomputable def aveq : Nat -> AV -> AV -> Bool := Nat.rec (fun _ _ => false) fun _ rec a b => match a with
 | .int k m => (match b with | .int j n => and' (keq k j) (beqI m n) | _ => false)
 | .bool x => (match b with | .bool y => bqB x y | _ => false)
 | .str x => (match b with | .str y => beqL x y | _ => false)
 | .nilp => (match b with | .nilp => true | _ => false)
 | .pv x => (match b with | .pv y => rec x y | _ => false)
 | .sv l x => (match b with | .sv m y => and' (bqB x y) (avl rec l m) | _ => false)
 | .sn => (match b with | .sn => true | _ => false)
 | .agg t l => (match b with | .agg u m => and' (Nat.beq t u) (avl rec l m) | _ => false)
 | .tup l => (match b with | .tup m => avl rec l m | _ => false)
 | .fn f l m => (match b with | .fn g p q => and' (Nat.beq f g) (and' (avl rec l p) (avl rec m q)) | _ => false)
 | .nilf => (match b with | .nilf => true | _ => false)
 | .nilm => (match b with | .nilm => true | _ => false)
 | .ob i t => (match b with | .ob j u => and' (Nat.beq i j) (Nat.beq t u) | _ => false)
 | .cn i => (match b with | .cn j => Nat.beq i j | _ => false)
 | _ => false
theorem avl_ok {rec : AV -> AV -> Bool} (h : ∀ a b, rec a b = true -> a = b) : ∀ {l m : List AV}, avl rec l m = true -> l = m
 | [], m, e => by
  cases m with
  | nil => rfl
  | cons b m => cases e
 | a :: l, m, e => by
  cases m with
  | nil => cases e
  | cons b m =>
   obtain ⟨e1, e2⟩ := and'_ok e
   rw [h a b e1, avl_ok h (l := l) (m := m) e2]
theorem beqB_ok {a b : Bool} (h : bqB a b = true) : a = b := by cases a <;> cases b <;> first | rfl | cases h
theorem beqL_ok : ∀ {l m : List Nat}, beqL l m = true -> l = m
 | [], m, e => by
  cases m with
  | nil => rfl
  | cons b m => cases e
 | a :: l, m, e => by
  cases m with
  | nil => cases e
  | cons b m =>
   obtain ⟨e1, e2⟩ := and'_ok e
   rw [beq_true.1 e1, beqL_ok (l := l) (m := m) e2]
theorem aveq_ok : ∀ (n : Nat) (a b : AV), aveq n a b = true -> a = b := by
 intro n
 induction n with
 | zero => intro a b h; cases h
 | succ n ih =>
  intro a b h
  cases a <;> cases b <;> first | (cases h; done) | skip
  ·obtain ⟨h1, h2⟩ := and'_ok h
   rw [keq_ok h1]
   rw [beqI_eq, beq_iff_eq] at h2
   rw [h2]
  ·rw [beqB_ok h]
  ·rw [beqL_ok h]
  ·rfl
  ·rw [ih _ _ h]
  ·obtain ⟨h1, h2⟩ := and'_ok h
   rw [beqB_ok h1, avl_ok ih h2]
  ·rfl
  ·obtain ⟨h1, h2⟩ := and'_ok h
   rw [beq_true.1 h1, avl_ok ih h2]
  ·rw [avl_ok ih h]
  ·obtain ⟨h1, h2⟩ := and'_ok h
   obtain ⟨h2, h3⟩ := and'_ok h2
   rw [beq_true.1 h1, avl_ok ih h2, avl_ok ih h3]
  ·rfl
  ·rfl
  ·obtain ⟨h1, h2⟩ := and'_ok h
   rw [beq_true.1 h1, beq_true.1 h2]
  ·rw [beq_true.1 h]
noncomputable def memOf (l : List Fact) : Nat -> List AV -> Option AV := List.rec (fun _ _ => none) (fun q _ ih f as => Bool.rec (ih f as) (some q.r) (and' (Nat.beq q.f f) (avl (aveq 60) q.as as))) l
theorem known_list {P : PX} : ∀ {l : List Fact}, (∀ q, q ∈ l -> Knows P q.f q.as q.r) -> Known P (memOf l)
 | [], _ => known_none
 | q :: l, h => by
  have ih := known_list (fun q' hq => h q' (List.mem_cons_of_mem _ hq))
  have hq := h q List.mem_cons_self
  have key : ∀ f as r, memOf (q :: l) f as = some r -> Knows P f as r := by
   intro f as r e
   replace e : (Bool.rec (memOf l f as) (some q.r) (and' (Nat.beq q.f f) (avl (aveq 60) q.as as)) : Option AV) = some r := e
   cases e1 : and' (Nat.beq q.f f) (avl (aveq 60) q.as as) with
   | true =>
    rw [e1] at e
    cases e
    obtain ⟨e2, e3⟩ := and'_ok e1
    rw [<- beq_true.1 e2, <- avl_ok (aveq_ok 60) e3]
    exact hq
   | false =>
    rw [e1] at e
    exact ⟨ih.fn f as r e, ih.ok f as r e⟩
  exact ⟨fun f as r e => (key f as r e).1, fun f as r e => (key f as r e).2⟩
end Go.Proofs.YtgaghaggiblabaaGreatDoor.Ev
namespace Go.Proofs.YtgaghaggiblabaaGreatDoor.Ev
open Go.RowKit
section
variable {P : PX}
def JO (o : Obj) : Prop := (∀ a e f, o ≠ .cells a e f) /\ (∀ e c, o ≠ .map e c)
theorem jo_loop (r : Loop) : JO (.loop r) := ⟨fun _ _ _ e => (by cases e), fun _ _ e => (by cases e)⟩
theorem jo_def (d : Option (List Deferred)) : JO (.deferred d) := ⟨fun _ _ _ e => (by cases e), fun _ _ e => (by cases e)⟩
theorem jo_img {s : St} (hi : Inv P s) {c : Nat} {o : Obj} (h : s.w.heap[c]? = some o) (ho : JO o) : ¬ Img s.ρ s.H c := by
 rintro ⟨b, ab, k, e1, e2⟩
 obtain ⟨c', k', o', h1, h2, h3, h4⟩ := hi.hr.blk b ab e1
 rw [e2] at h1
 cases h1
 rw [h] at h3
 cases h3
 cases ab <;> cases k <;> cases o <;> simp only [BR] at h4
 ·exact ho.1 _ _ _ rfl
 ·exact ho.2 _ _ rfl
theorem Ext.jo {wm : Nat} {s t : St} (hi : Inv P s) (h : Ext P wm s t) {c : Nat} {o : Obj} (hc : s.w.heap[c]? = some o) (ho : JO o) : t.w.heap[c]? = some o :=
 (h.frame c (Array.getElem?_eq_some_iff.1 hc).1 (jo_img hi hc ho)).trans hc
theorem Ext.push {wm : Nat} {s : St} (hi : Inv P s) (o : Obj) : Ext P wm s ⟨s.K, s.ρ, s.n, s.H, s.w.alloc o⟩ := by
 refine ⟨⟨?_, ⟨?_, hi.hr.inj⟩, hi.rdom⟩, fun _ _ e => e, fun _ _ e => e, fun _ _ => rfl, Nat.le_refl _, ?_, ?_, rfl, rfl, rfl, fun _ _ => rfl, fun _ _ e => e, fun _ _ e => .inl e, fun _ e => .inr e⟩
 ·intro c a e
  obtain ⟨t, fz, h1⟩ := hi.kok c a e
  exact ⟨t, fz, by rw [heap_alloc_lt _ _ (Array.getElem?_eq_some_iff.1 h1).1]; exact h1⟩
 ·intro b ab e
  obtain ⟨c, k, o', h1, h2, h3, h4⟩ := hi.hr.blk b ab e
  exact ⟨c, k, o', h1, h2, by rw [heap_alloc_lt _ _ (Array.getElem?_eq_some_iff.1 h3).1]; exact h3, h4⟩
 ·intro c hc _
  exact heap_alloc_lt _ _ hc
 ·show s.w.heap.size <= (s.w.alloc o).heap.size
  rw [heap_alloc_size]; omega
theorem Ext.putj {wm : Nat} {s t : St} (h : Ext P wm s t) {r : Nat} (hr : s.w.heap.size <= r) {o : Obj} (ht : t.w.heap[r]? = some o) (ho : JO o) (o' : Obj) : Ext P wm s ⟨t.K, t.ρ, t.n, t.H, t.w.putObj r o'⟩ := by
 refine ⟨⟨?_, ⟨?_, h.inv.hr.inj⟩, h.inv.rdom⟩, h.kle, h.rle, h.rlt, h.nle, ?_, ?_, h.os, h.tape, h.out, h.wmk, h.sub, h.knew, h.rnew⟩
 ·intro c x e
  obtain ⟨ty, fz, h1⟩ := h.inv.kok c x e
  refine ⟨ty, fz, ?_⟩
  show (t.w.putObj r _).heap[c]? = _
  rw [World.putObj_heap_other (fun e => by subst e; rw [ht] at h1; cases h1; exact ho.1 _ _ _ rfl)]
  exact h1
 ·intro b ab e
  obtain ⟨c, k, o, h1, h2, h3, h4⟩ := h.inv.hr.blk b ab e
  refine ⟨c, k, o, h1, h2, ?_, h4⟩
  show (t.w.putObj r _).heap[c]? = _
  rw [World.putObj_heap_other (fun e' => by
   subst e'
   exact jo_img h.inv ht ho ⟨b, ab, k, e, h1⟩)]
  exact h3
 ·intro c hc hi
  show (t.w.putObj r _).heap[c]? = _
  rw [World.putObj_heap_other (by omega)]
  exact h.frame c hc hi
 ·show s.w.heap.size <= (t.w.putObj r o').heap.size
  rw [World.putObj_size]
  exact h.size
def mark (b : Nat) : Deferred := { target := .collected b, args := #[] }
structure Marks (base : Nat) (w : World) (bs : List Nat) : Prop where
 nd : bs.Nodup
 at_ : ∀ b, b ∈ bs -> base <= b /\ w.heap[b]? = some (.deferred (some []))
theorem Marks.ext {base wm : Nat} {s t : St} (hi : Inv P s) (h : Ext P wm s t) {bs : List Nat} (hm : Marks base s.w bs) : Marks base t.w bs :=
 ⟨hm.nd, fun b hb => ⟨(hm.at_ b hb).1, h.jo hi (hm.at_ b hb).2 (jo_def _)⟩⟩
def CodeM (P : PX) (n : Nat) (V : Nat -> Prop) (rec : Rec) (c : C) (cd : Code) : Prop :=
 ∀ (base wm : Nat) (s : St) (bs : List Nat) (T : Tm) (a : Act) (kn : Tm -> Nat -> Hp -> Out) (kx : Nat -> Tm -> Nat -> Hp -> Out) (kr : Tm -> Nat -> Hp -> Out) (r : AV × Nat × Hp) (Q : Exit -> Act -> World -> Prop),
  Inv P s -> wm <= s.n -> base <= s.w.heap.size -> TR P s.K s.ρ ⟨n, bs.map mark⟩ T a -> Marks base s.w bs -> Only V T -> code rec wm c T s.n s.H kn kx kr = some r ->
  (∀ bs T' a' t, TR P t.K t.ρ ⟨n, bs.map mark⟩ T' a' -> Marks base t.w bs -> Only V T' -> Ext P wm s t -> kn T' t.n t.H = some r -> Q .normal a' t.w) ->
  (∀ id bs T' a' t, TR P t.K t.ρ ⟨n, bs.map mark⟩ T' a' -> Marks base t.w bs -> Only V T' -> Ext P wm s t -> kx id T' t.n t.H = some r -> Q (.exit id) a' t.w) ->
  (∀ bs T' a' t, TR P t.K t.ρ ⟨n, bs.map mark⟩ T' a' -> Marks base t.w bs -> Only V T' -> Ext P wm s t -> kr T' t.n t.H = some r -> Q .ret a' t.w) -> cd.wpIn (Fw none) 0 P Q a s.w
theorem CodeM.of {n : Nat} {V : Nat -> Prop} {rec : Rec} {c : C} {cd : Code} (h : ∀ ds, CodeW P ⟨n, ds⟩ V rec c cd) : CodeM P n V rec c cd := by
 intro base wm s bs T a kn kx kr r Q hi hw _ ht hm ho hk hn hx hr
 exact h (bs.map mark) none wm s T a kn kx kr r Q hi hw ht ho hk (fun T' a' t p1 p2 p3 p4 => hn bs T' a' t p1 (hm.ext hi p3) p2 p3 p4) (fun id T' a' t p1 p2 p3 p4 => hx id bs T' a' t p1 (hm.ext hi p3) p2 p3 p4) (fun T' a' t p1 p2 p3 p4 => hr bs T' a' t p1 (hm.ext hi p3) p2 p3 p4)
theorem CodeM.seq {n : Nat} {V : Nat -> Prop} {rec : Rec} {c1 c2 : C} {x y : Code} (h1 : CodeM P n V rec c1 x) (h2 : CodeM P n V rec c2 y) : CodeM P n V rec (.seq c1 c2) (.seq x y) := by
 intro base wm s bs T a kn kx kr r Q hi hw hb ht hm ho hk hn hx hr
 replace hk : code rec wm c1 T s.n s.H (fun T n H => code rec wm c2 T n H kn kx kr) kx kr = some r := hk
 refine wpIn_seq (h1 base wm s bs T a _ kx kr r _ hi hw hb ht hm ho hk ?_ hx hr)
 intro bs' T' a' t q1 q0 q2 q3 q4
 exact h2 base wm t bs' T' a' kn kx kr r _ q3.inv (Nat.le_trans hw q3.nle) (Nat.le_trans hb q3.size) q1 q0 q2 q4 (fun bs T' a' t p1 p0 p2 p3 p4 => hn bs T' a' t p1 p0 p2 (q3.trans p3) p4) (fun id bs T' a' t p1 p0 p2 p3 p4 => hx id bs T' a' t p1 p0 p2 (q3.trans p3) p4)
  (fun bs T' a' t p1 p0 p2 p3 p4 => hr bs T' a' t p1 p0 p2 (q3.trans p3) p4)
theorem CodeM.cond {n : Nat} {V : Nat -> Prop} {rec : Rec} {c : O} {o : Operand} (hc : om c o = true) {ca cb : C} {x y : Code} (h1 : CodeM P n V rec ca x) (h2 : CodeM P n V rec cb y) : CodeM P n V rec (.cond c ca cb) (.cond o x y) := by
 intro base wm s bs T a kn kx kr r Q hi hw hb ht hm ho hk hn hx hr
 replace hk : (match ev T c with | .bool c => Bool.rec (code rec wm cb T s.n s.H kn kx kr) (code rec wm ca T s.n s.H kn kx kr) c | _ => none) = some r := hk
 have hv := om_ok hc ht
 split at hk
 ·rename_i b hb'
  rw [hb'] at hv
  refine wpIn_cond hv.bool ?_
  cases b with
  | true => exact h1 base wm s bs T a kn kx kr r Q hi hw hb ht hm ho hk hn hx hr
  | false => exact h2 base wm s bs T a kn kx kr r Q hi hw hb ht hm ho hk hn hx hr
 ·cases hk
theorem CodeM.block {n : Nat} {V : Nat -> Prop} {rec : Rec} {id : Nat} {b : C} {y : Code} (h : CodeM P n V rec b y) : CodeM P n V rec (.block id b) (.block id y) := by
 intro base wm s bs T a kn kx kr r Q hi hw hb ht hm ho hk hn hx hr
 replace hk : code rec wm b T s.n s.H kn (fun j T n H => Bool.rec (kx j T n H) (kn T n H) (Nat.beq j id)) kr = some r := hk
 refine wpIn_block (h base wm s bs T a _ _ _ r _ hi hw hb ht hm ho hk hn ?_ hr)
 intro j bs T' a' t q1 q0 q2 q3 q4
 rw [brec_beq] at q4
 show (if j = id then Q .normal a' t.w else Q (.exit j) a' t.w)
 split at q4
 ·rename_i e
  rw [if_pos e]
  exact hn bs T' a' t q1 q0 q2 q3 q4
 ·rename_i e
  rw [if_neg e]
  exact hx j bs T' a' t q1 q0 q2 q3 q4
theorem CodeM.loop {n : Nat} {V : Nat -> Prop} {rec : Rec} {b : C} {y : Code} (h : CodeM P n V rec b y) : CodeM P n V rec (.loop b) (.loop y) := by
 intro base wm s bs T a kn kx kr r Q hi hw hb ht hm ho hk hn hx hr
 replace hk : lp (code rec wm b) kx kr 1000000 T s.n s.H = some r := hk
 generalize 1000000 = m at hk
 refine wp_loop_count (fun m a w => ∃ bs T' t, w = t.w /\ TR P t.K t.ρ ⟨n, bs.map mark⟩ T' a /\ Marks base t.w bs /\ Only V T' /\ Ext P wm s t /\ lp (code rec wm b) kx kr m T' t.n t.H = some r) m ⟨bs, T, s, rfl, ht, hm, ho, .refl hi, hk⟩ ?_
 rintro m a w ⟨bs, T', t, rfl, q1, q0, q2, q3, q4⟩
 cases m with
 | zero => cases q4
 | succ m =>
  replace q4 : code rec wm b T' t.n t.H (lp (code rec wm b) kx kr m) kx kr = some r := q4
  refine h base wm t bs T' a _ _ _ r _ q3.inv (Nat.le_trans hw q3.nle) (Nat.le_trans hb q3.size) q1 q0 q2 q4 ?_ ?_ ?_
  ·intro bs T2 a2 t2 p1 p0 p2 p3 p4
   exact ⟨m, Nat.lt_succ_self _, bs, T2, t2, rfl, p1, p0, p2, q3.trans p3, p4⟩
  ·intro id bs T2 a2 t2 p1 p0 p2 p3 p4
   exact hx id bs T2 a2 t2 p1 p0 p2 (q3.trans p3) p4
  ·intro bs T2 a2 t2 p1 p0 p2 p3 p4
   exact hr bs T2 a2 t2 p1 p0 p2 (q3.trans p3) p4
theorem leaves_marks {fn : Func} {tmps : Array Value} {R : Ending -> World -> Prop} {wm : Nat} {s : St} : ∀ {bs : List Nat} {t : St}, Ext P wm s t -> Marks s.w.heap.size t.w bs ->
  (∀ t' : St, t'.K = t.K -> t'.ρ = t.ρ -> t'.n = t.n -> t'.H = t.H -> Ext P wm s t' -> ∃ v, (results fn tmps).run P t'.w = .ok v t'.w /\ R (.returned v) t'.w) -> LeavesInM (Fw none) 0 P fn tmps R (bs.map mark) .returning t.w := by
 intro bs
 induction bs with
 | nil =>
  intro t he _ hR
  exact (show ∃ v, _ from by obtain ⟨v, h1, h2⟩ := hR t rfl rfl rfl rfl he; exact ⟨v, h1, h2⟩)
 | cons b bs ih =>
  intro t he hm hR
  obtain ⟨h1, h2⟩ := hm.at_ b List.mem_cons_self
  have he' := he.putj h1 h2 (jo_def _) (.deferred none)
  refine ⟨by simp, .inl ⟨b, _, rfl, run_takeDeferred h2, ih (t := ⟨t.K, t.ρ, t.n, t.H, t.w.putObj b (.deferred none)⟩) he' ⟨(List.nodup_cons.1 hm.nd).2, ?_⟩ fun t' e1 e2 e3 e4 e5 => hR t' e1 e2 e3 e4 e5⟩⟩
  intro b' hb'
  obtain ⟨g1, g2⟩ := hm.at_ b' (List.mem_cons_of_mem _ hb')
  refine ⟨g1, ?_⟩
  show (t.w.putObj b _).heap[b']? = _
  rw [World.putObj_heap_other (fun e => by subst e; exact (List.nodup_cons.1 hm.nd).1 hb')]
  exact g2
theorem body_okM (hty : TyOk P) {rec : Rec} {f : Nat} {fd : FD} {fn : Func} {c : Code} {V : Nat -> Prop} (h1 : P.funcs[f]? = some fn) (h2 : fn.body = some c) (h3 : fd.np <= fn.ntmps) (h4 : ∀ i, i < fd.np -> V i) (h5 : All2 (fun r f => rvm P r f = true) fd.rs fn.results.toList) (h6 : CodeM P fn.ntmps V rec fd.code c)
  {as : List AV} {wm : Nat} {s : St} {r : AV × Nat × Hp} {vs : List Value} (h : body rec fd as wm s.n s.H = some r) (hi : Inv P s) (hw : wm <= s.n) (hv : All2 (VR P s.K s.ρ) as vs) : Calls P f vs.toArray s.w (CallPost P wm s r) := by
 obtain ⟨h0, h⟩ := brec_some h
 have hlen : as.length <= fd.np := by rw [<- len_eq]; exact Nat.ble_eq ▸ h0
 have hw' : (Mode.rec s.n s.n wm fd.mode : Nat) <= s.n := by cases fd.mode <;> first | exact Nat.le_refl _ | exact hw
 have hend : ∀ bs T' a' t, TR P t.K t.ρ ⟨fn.ntmps, bs.map mark⟩ T' a' -> Marks s.w.heap.size t.w bs -> Only V T' -> Ext P (Mode.rec s.n s.n wm fd.mode) s t -> fin fd.mode fd.rs s.n s.H T' t.n t.H = some r ->
   LeavesInM (Fw none) 0 P fn a'.tmps (CallPost P wm s r) a'.defers .returning t.w := by
  intro bs T' a' t q1 q0 _ q3 q4
  rw [show a'.defers = bs.map mark from q1.df]
  refine leaves_marks q3 q0 ?_
  intro t' e1 e2 e3 e4 e5
  have q1' : TR P t'.K t'.ρ ⟨fn.ntmps, bs.map mark⟩ T' a' := by rw [e1, e2]; exact q1
  rw [<- e3, <- e4] at q4
  exact fin_ok hty hi hw q1' h5 e5 q4
 refine (callsIn_wide (n := 0)).1 (callsIn_of_wp_marks (F := Fw none) h1 h2 trivial (h6 s.w.heap.size (Mode.rec s.n s.n wm fd.mode) s [] _ _ _ _ _ r _ hi hw' (Nat.le_refl _) (TR.start hv (Nat.le_trans hlen h3)) ⟨List.nodup_nil, fun _ hb => by cases hb⟩ ?_ h ?_ ?_ ?_))
 ·intro i hni
  rw [lk_args, if_pos (Nat.zero_le _), Nat.sub_zero, List.getElem?_eq_none]
  ·rfl
  ·rcases Nat.lt_or_ge i fd.np with e | e
   ·exact absurd (h4 i e) hni
   ·omega
 ·exact hend
 ·intro id bs T' a' t _ _ _ _ q; cases q
 ·exact hend
end
end Go.Proofs.YtgaghaggiblabaaGreatDoor.Ev
namespace Go.Proofs.YtgaghaggiblabaaGreatDoor.Ev
open Go.RowKit
section
variable {P : PX}
def fnA (l : Nat) : Value := .func (.yield l) #[] #[]
def ItOk (P : PX) (f : Nat) (r0 r2 r3 : List G) (ln vl : Nat) : Prop := FnOk P f /\ ∀ (rec : Rec), RecOk P rec -> RecFn P rec -> ∀ (wm l : Nat) (G : St -> Prop) (K : Nat -> Hp -> Out) (KB : AV -> Nat -> Hp -> Out) (r : AV × Nat × Hp) (s : St) (ca : List AV) (vc : List Value),
 (∀ t, G t -> Inv P t /\ wm <= t.n) -> (∀ t t', G t -> Ext P wm t t' -> G t') -> G s -> ca.length + 2 <= ln -> All2 (VR P s.K s.ρ) ca vc ->
 (gs rec wm r0 (args (.top :: ca) 0) s.n s.H fun S n H => match lk ln S with
  | .int _ m => Bool.rec (Bool.rec none (gs rec wm r2 S n H fun S n H => gs rec wm r3 S n H fun S n H => KB (lk vl S) n H) (beqI m 1)) (K n H) (beqI m 0)
  | _ => none) = some r ->
 (∀ (v : AV) (u : Value) (t : St), G t -> VR P t.K t.ρ v u -> KB v t.n t.H = some r -> ∃ fn tm as bd, (Instr.yield l #[u]).run P t.w = .ok (.round l fn tm as bd) t.w /\
  RoundIn (Fw none) 0 P l fn tm as bd t.w fun e w' => ∃ t' : St, e = .returned (.bool true) /\ w' = t'.w /\ G t' /\ Kle t.K t'.K /\ Rle t.ρ t'.ρ /\ K t'.n t'.H = some r) ->
 CallsIn (Fw none) 0 P f (fnA l :: vc).toArray s.w fun e w' => ∃ v, ∃ t : St, e = .returned v /\ w' = t.w /\ G t /\ K t.n t.H = some r
theorem TR.fresh {K : Kap} {ρ : Rho} {n : Nat} {ds : List Deferred} {T : Tm} {a : Act} (h : TR P K ρ ⟨n, ds⟩ T a) : TR P K ρ ⟨n, []⟩ T { tmps := a.tmps, defers := [] } := ⟨h.size, rfl, h.at_⟩
theorem rf_ok {n : Nat} {V : Nat -> Prop} {rec : Rec} (hrec : RecOk P rec) (hfn : RecFn P rec) {x t fm ml mv fl ll lv : Nat} {m0 m2 m3 l0 l2 l3 : List G} (hm : ItOk P fm m0 m2 m3 ml mv) (hl : ItOk P fl l0 l2 l3 ll lv)
  {ca cb : C} {as bd : Code} (hA : CodeW P ⟨n, []⟩ V rec ca as) (hB : CodeW P ⟨n, []⟩ V rec cb bd) (hVt : V t) (htn : t < n) :
  CodeM P n V rec (.rf x t fm ml mv fl ll lv m0 m2 m3 l0 l2 l3 ca cb) (.rangeFunc (.tmp x) #[t] as bd) := by
 intro base wm s bs T a kn kx kr r Q hi hw hb ht hmk ho hk hn hx hr
 -- one of the two iterators
 have key : ∀ (f : Nat) (r0 r2 r3 : List G) (ln vl : Nat), ItOk P f r0 r2 r3 ln vl -> ∀ clo, lk x T = .fn f [] clo ->
   itr rec wm r0 r2 r3 ln vl t (code rec wm ca) (code rec wm cb) clo T s.n s.H kn = some r -> (Code.rangeFunc (.tmp x) #[t] as bd).wpIn (Fw none) 0 P Q a s.w := by
  intro f r0 r2 r3 ln vl hit clo hlx hE
  obtain ⟨hble, hE'⟩ := brec_some hE
  clear hE
  have hE := hE'
  clear hE'
  rw [len_eq] at hble
  have hlen : clo.length + 2 <= ln := Nat.le_of_ble_eq_true hble
  have hv := ht.at_ x
  rw [hlx] at hv
  obtain ⟨ly, cs, hR, he⟩ := hv.known (by simp) (by simp)
  obtain ⟨vc, hev, hvc⟩ : ∃ vc, a.eval (.tmp x) = .func (.func f) #[] (List.toArray vc) /\ All2 (VR P s.K s.ρ) clo vc := by
   cases hR with
   | fn g1 g2 g3 =>
    cases g3
    cases g1
    exact ⟨_, he, g2.all⟩
  clear he hR hv
  refine wpIn_rangeFunc ?_
  intro fn _
  obtain ⟨R0, hR0⟩ : ∃ R0 : Loop, R0 = { state := .ready, pending := none, fn, tmps := a.tmps, params := #[t], assign := as, body := bd, defers := s.w.heap.size } := ⟨_, rfl⟩
  obtain ⟨W1, hW1⟩ : ∃ W1, (s.w.alloc (.deferred (some []))).alloc (.loop R0) = W1 := ⟨_, rfl⟩
  have e1 : W1.heap[s.w.heap.size + 1]? = some (.loop R0) := by
   rw [<- hW1]; have := World.alloc_heap_new (s.w.alloc (.deferred (some []))) (.loop R0); rwa [World.size_alloc] at this
  have e2 : W1.heap[s.w.heap.size]? = some (.deferred (some [])) := by
   rw [<- hW1, heap_alloc_lt _ _ (by rw [heap_alloc_size]; omega)]; exact heap_alloc_new _ _
  have hE1 : Ext P wm s ⟨s.K, s.ρ, s.n, s.H, W1⟩ := by
   have h1 := Ext.push (P := P) (wm := wm) hi (.deferred (some []))
   have h2 := Ext.push (P := P) (wm := wm) h1.inv (.loop R0)
   rw [<- hW1]
   exact h1.trans h2
  refine ⟨s.w.heap.size + 1, [mark s.w.heap.size], W1, { target := .fn (.func f) vc.toArray, args := #[fnA (s.w.heap.size + 1)] }, W1, f, (fnA (s.w.heap.size + 1) :: vc).toArray, W1, ?_, ?_, fun _ _ => trivial, ?_, (fun h => by cases h), ?_⟩
  ·rw [<- hW1, hR0]; exact run_enterLoop_outer _ _ _ _ _
  ·simp only [resolve, hev]
   simp [go_sem, fnA]
  ·have : (fnA (s.w.heap.size + 1) :: vc).toArray = #[fnA (s.w.heap.size + 1)] ++ vc.toArray := Array.toList_inj.1 (by simp)
   rw [this]
   simp only [invoke]
   exact run_callFunc hit.1 _ _
  ·have hG : (fun u : St => Ext P wm s u /\ u.w.heap[s.w.heap.size + 1]? = some (.loop R0) /\ u.w.heap[s.w.heap.size]? = some (.deferred (some []))) ⟨s.K, s.ρ, s.n, s.H, W1⟩ := ⟨hE1, e1, e2⟩
   refine (hit.2 rec hrec hfn wm (s.w.heap.size + 1) (fun u => Ext P wm s u /\ u.w.heap[s.w.heap.size + 1]? = some (.loop R0) /\ u.w.heap[s.w.heap.size]? = some (.deferred (some []))) (fun n H => kn T n H)
    (fun v n H => code rec wm ca ((t, v) :: T) n H (fun T' n H => code rec wm cb T' n H (fun _ n H => kn T n H) (fun _ _ _ _ => none) (fun _ _ _ => none)) (fun _ _ _ _ => none) (fun _ _ _ => none)) r ⟨s.K, s.ρ, s.n, s.H, W1⟩ clo vc ?_ ?_ hG hlen hvc hE ?_).mono ?_
   ·rintro u ⟨h1, _⟩
    exact ⟨h1.inv, Nat.le_trans hw h1.nle⟩
   ·rintro u u' ⟨h1, h2, h3⟩ h4
    exact ⟨h1.trans h4, h4.jo h1.inv h2 (jo_loop _), h4.jo h1.inv h3 (jo_def _)⟩
   · -- a round
    rintro v u q ⟨h1, h2, h3⟩ hvu hKB
    have hy := run_yield (P := P) (args := #[u]) h2 (by rw [hR0]; rfl)
    refine ⟨_, _, _, _, hy, roundIn_of_wpIn trivial ?_⟩
    have htmps : ((R0.params.zip #[u]).foldl (fun tmps (t, a) => tmps.setIfInBounds t a) R0.tmps) = (a.put (some t) u).tmps := by rw [hR0]; simp [Act.put]
    rw [htmps, show R0.assign = as by rw [hR0], show R0.body = bd by rw [hR0]]
    have ht1 := ((ht.mono h1.kle h1.rle).put htn hvu).fresh
    have ho1 : Only V ((t, v) :: T) := by
     intro i hi'
     rw [lk_cons, if_neg (fun e => by subst e; exact hi' hVt)]
     exact ho i hi'
    refine hA (some (s.w.heap.size + 1)) wm q _ _ _ _ _ r _ h1.inv (Nat.le_trans hw h1.nle) ht1 ho1 hKB ?_ ?_ ?_
    ·intro T1 a1 t1 p1 p2 p3 p4
     have l1 := p3.jo h1.inv h2 (jo_loop _)
     have d1 := p3.jo h1.inv h3 (jo_def _)
     refine ⟨_, run_beginRound l1 (by rw [hR0]), ?_⟩
     have E2 := (h1.trans p3).putj (by omega) l1 (jo_loop _) (.loop { R0 with state := .busy })
     have l2 : (t1.w.putObj (s.w.heap.size + 1) (.loop { R0 with state := .busy })).heap[s.w.heap.size + 1]? = some (.loop { R0 with state := .busy }) := World.putObj_heap_same (Array.getElem?_eq_some_iff.1 l1).1
     have d2 : (t1.w.putObj (s.w.heap.size + 1) (.loop { R0 with state := .busy })).heap[s.w.heap.size]? = some (.deferred (some [])) := by rw [World.putObj_heap_other (by omega)]; exact d1
     refine hB (some (s.w.heap.size + 1)) wm ⟨t1.K, t1.ρ, t1.n, t1.H, t1.w.putObj (s.w.heap.size + 1) (.loop { R0 with state := .busy })⟩ T1 a1 _ _ _ r _ E2.inv (Nat.le_trans hw E2.nle) p1 p2 p4 ?_ ?_ ?_
     ·intro T3 a3 t3 g1 g2 g3 g4
      have l3 := g3.jo E2.inv l2 (jo_loop _)
      have d3 := g3.jo E2.inv d2 (jo_def _)
      have E3 := (E2.trans g3).putj (by omega) l3 (jo_loop _) (.loop R0)
      have hend := run_endRound (P := P) none l3
      refine ⟨_, _, hend, ⟨t3.K, t3.ρ, t3.n, t3.H, t3.w.putObj (s.w.heap.size + 1) (.loop R0)⟩, rfl, ?_, ⟨E3, World.putObj_heap_same (Array.getElem?_eq_some_iff.1 l3).1, ?_⟩, ?_, ?_, g4⟩
      ·show t3.w.putObj _ _ = t3.w.putObj _ _
       rw [hR0]
       rfl
      ·show (t3.w.putObj _ _).heap[_]? = _
       rw [World.putObj_heap_other (by omega)]; exact d3
      ·exact fun c z e => g3.kle c z (p3.kle c z e)
      ·exact fun c z e => g3.rle c z (p3.rle c z e)
     ·intro id T3 a3 t3 _ _ _ g4; cases g4
     ·intro T3 a3 t3 _ _ _ g4; cases g4
    ·intro id T1 a1 t1 _ _ _ p4; cases p4
    ·intro T1 a1 t1 _ _ _ p4; cases p4
   ·rintro e w' ⟨v, q, rfl, rfl, ⟨h1, h2, h3⟩, hK⟩
    have he := run_endLoop (P := P) h2 (by rw [hR0]; simp)
    obtain ⟨R1, hR1⟩ : ∃ R1 : Loop, { R0 with state := .exhausted } = R1 := ⟨_, rfl⟩
    rw [hR1, show R0.pending = none by rw [hR0]] at he
    have E4 := h1.putj (by omega) h2 (jo_loop _) (.loop R1)
    refine ⟨none, _, he, ?_⟩
    refine hn (s.w.heap.size :: bs) T { a with defers := [mark s.w.heap.size] ++ a.defers } ⟨q.K, q.ρ, q.n, q.H, q.w.putObj (s.w.heap.size + 1) (.loop R1)⟩ ⟨ht.size, ?_, (ht.mono E4.kle E4.rle).at_⟩ ⟨?_, ?_⟩ ho E4 hK
    ·show [mark s.w.heap.size] ++ a.defers = _
     rw [ht.df]; rfl
    ·refine List.nodup_cons.2 ⟨fun hmem => ?_, hmk.nd⟩
     have := (Array.getElem?_eq_some_iff.1 (hmk.at_ _ hmem).2).1
     omega
    ·intro b hbm
     rcases List.mem_cons.1 hbm with rfl | hbm
     ·refine ⟨hb, ?_⟩
      show (q.w.putObj _ _).heap[_]? = _
      rw [World.putObj_heap_other (by omega)]; exact h3
     ·exact (hmk.ext hi E4).at_ b hbm
 replace hk : (match lk x T with | .fn f fi clo => (match fi with | [] => Bool.rec (Bool.rec none (itr rec wm l0 l2 l3 ll lv t (code rec wm ca) (code rec wm cb) clo T s.n s.H kn) (Nat.beq f fl)) (itr rec wm m0 m2 m3 ml mv t (code rec wm ca) (code rec wm cb) clo T s.n s.H kn) (Nat.beq f fm) | _ => none) | _ => none) = some r := hk
 split at hk
 ·rename_i f fi clo hlx
  split at hk
  ·cases e : Nat.beq f fm with
   | true =>
    rw [e] at hk
    have := beq_true.1 e
    subst this
    exact key _ _ _ _ _ _ hm clo hlx hk
   | false =>
    rw [e] at hk
    obtain ⟨e', hk'⟩ := brec_some hk
    have := beq_true.1 e'
    subst this
    exact key _ _ _ _ _ _ hl clo hlx hk'
  ·cases hk
 ·cases hk
end
end Go.Proofs.YtgaghaggiblabaaGreatDoor.Ev
namespace Go.Proofs.YtgaghaggiblabaaGreatDoor.Ev
section
def Two (x y : AV) (T : Tm) : Prop := lk 0 T = x /\ lk 1 T = y
noncomputable def no01 (outs : List Nat) : Bool := List.rec true (fun d _ ih => and' (Nat.ble 2 d) ih) outs
theorem no01_ok {outs : List Nat} (h : no01 outs = true) : ∀ d, d ∈ outs -> 2 <= d := by
 induction outs with
 | nil => intro d hd; cases hd
 | cons e outs ih =>
  obtain ⟨h1, h2⟩ := and'_ok h
  intro d hd
  rcases List.mem_cons.1 hd with rfl | hd
  ·exact Nat.le_of_ble_eq_true h1
  ·exact ih h2 d hd
theorem Two.outs {x y : AV} {T S : Tm} {outs : List Nat} (ho : no01 outs = true) (h : Two x y T) : Two x y (outsT outs S T) := by
 have := no01_ok ho
 refine ⟨?_, ?_⟩
 ·rw [lk_outsT, if_neg (fun e => by have := this _ e; omega)]; exact h.1
 ·rw [lk_outsT, if_neg (fun e => by have := this _ e; omega)]; exact h.2
inductive Sub (x y : AV) : C -> C -> Prop
 | skip : Sub x y .skip .skip
 | rg {is outs} : no01 outs = true -> Sub x y (.rg is outs) (.rg is outs)
 | rx {is is' outs} : no01 outs = true -> (∀ rec wm T n H (k : Kt), Two x y T -> gs rec wm is T n H k = gs rec wm is' T n H k) -> Sub x y (.rg is outs) (.rg is' outs)
 | dr {is outs} : no01 outs = true -> Sub x y (.dr is outs) (.dr is outs)
 | seq {a b a' b'} : Sub x y a a' -> Sub x y b b' -> Sub x y (.seq a b) (.seq a' b')
 | cond {c a b a' b'} : Sub x y a a' -> Sub x y b b' -> Sub x y (.cond c a b) (.cond c a' b')
 | block {id b b'} : Sub x y b b' -> Sub x y (.block id b) (.block id b')
 | loop {b b'} : Sub x y b b' -> Sub x y (.loop b) (.loop b')
 | exit {id} : Sub x y (.exit id) (.exit id)
 | ret : Sub x y .ret .ret
theorem Sub.ok {x y : AV} {c c' : C} (h : Sub x y c c') : ∀ (rec : Rec) (wm : Nat) (T : Tm) (n : Nat) (H : Hp) (kn kn' : Kt) (kx kx' : Nat -> Kt) (kr kr' : Kt), Two x y T -> (∀ T n H, Two x y T -> kn T n H = kn' T n H) -> (∀ j T n H, Two x y T -> kx j T n H = kx' j T n H) -> (∀ T n H, Two x y T -> kr T n H = kr' T n H) ->
  code rec wm c T n H kn kx kr = code rec wm c' T n H kn' kx' kr' := by
 induction h with
 | skip => intro rec wm T n H kn kn' kx kx' kr kr' ht hn hx hr; exact hn T n H ht
 | rg ho =>
  rename_i is outs
  intro rec wm T n H kn kn' kx kx' kr kr' ht hn hx hr
  show gs rec wm is T n H (fun S n H => kn (outsT outs S T) n H) = gs rec wm is T n H (fun S n H => kn' (outsT outs S T) n H)
  congr 1
  funext S n H
  exact hn _ n H (ht.outs ho)
 | rx ho he =>
  rename_i is is' outs
  intro rec wm T n H kn kn' kx kx' kr kr' ht hn hx hr
  show gs rec wm is T n H (fun S n H => kn (outsT outs S T) n H) = gs rec wm is' T n H (fun S n H => kn' (outsT outs S T) n H)
  rw [<- he rec wm T n H _ ht]
  congr 1
  funext S n H
  exact hn _ n H (ht.outs ho)
 | dr ho =>
  rename_i is outs
  intro rec wm T n H kn kn' kx kx' kr kr' ht hn hx hr
  show ds rec wm is [] T n H (fun S n H => kn (outsT outs S T) n H) = ds rec wm is [] T n H (fun S n H => kn' (outsT outs S T) n H)
  congr 1
  funext S n H
  exact hn _ n H (ht.outs ho)
 | seq h1 h2 ih1 ih2 =>
  intro rec wm T n H kn kn' kx kx' kr kr' ht hn hx hr
  exact ih1 rec wm T n H _ _ _ _ _ _ ht (fun T n H ht => ih2 rec wm T n H _ _ _ _ _ _ ht hn hx hr) hx hr
 | cond h1 h2 ih1 ih2 =>
  rename_i c a b a' b'
  intro rec wm T n H kn kn' kx kx' kr kr' ht hn hx hr
  show (match ev T c with | .bool c => (Bool.rec (code rec wm b T n H kn kx kr) (code rec wm a T n H kn kx kr) c : Out) | _ => none) = (match ev T c with | .bool c => (Bool.rec (code rec wm b' T n H kn' kx' kr') (code rec wm a' T n H kn' kx' kr') c : Out) | _ => none)
  rw [ih1 rec wm T n H kn kn' kx kx' kr kr' ht hn hx hr, ih2 rec wm T n H kn kn' kx kx' kr kr' ht hn hx hr]
 | block h ih =>
  rename_i id b b'
  intro rec wm T n H kn kn' kx kx' kr kr' ht hn hx hr
  refine ih rec wm T n H _ _ _ _ _ _ ht hn ?_ hr
  intro j T n H ht
  show (Bool.rec (kx j T n H) (kn T n H) (Nat.beq j id) : Out) = Bool.rec (kx' j T n H) (kn' T n H) (Nat.beq j id)
  rw [hx j T n H ht, hn T n H ht]
 | loop h ih =>
  rename_i b b'
  intro rec wm T n H kn kn' kx kx' kr kr' ht hn hx hr
  show lp (code rec wm b) kx kr 1000000 T n H = lp (code rec wm b') kx' kr' 1000000 T n H
  generalize 1000000 = m
  induction m generalizing T n H with
  | zero => rfl
  | succ m ihm =>
   exact ih rec wm T n H _ _ _ _ _ _ ht (fun T n H ht => ihm T n H ht) hx hr
 | exit =>
  rename_i id
  intro rec wm T n H kn kn' kx kx' kr kr' ht hn hx hr
  exact hx id T n H ht
 | ret =>
  intro rec wm T n H kn kn' kx kx' kr kr' ht hn hx hr
  exact hr T n H ht
end
end Go.Proofs.YtgaghaggiblabaaGreatDoor.Ev
namespace Go.Proofs.YtgaghaggiblabaaGreatDoor.Ev
open Go.RowKit
section
variable {P : PX} {o : Oper} {a : Act} {s : St} {wm : Nat}
theorem getD_put {a : Act} {d : Option Nat} {v : Value} {i : Nat} (h : d ≠ some i) : (a.put d v).tmps.getD i undef = a.tmps.getD i undef := by
 cases d with
 | none => rfl
 | some d =>
  simp only [Act.put, Array.getD_eq_getD_getElem?, Array.getElem?_setIfInBounds]
  rw [if_neg (fun e => h (by rw [e]))]
theorem gs_pre (hty : TyOk P) {ro : Option Nat} {mi : I -> Oper -> Prop} {rec : Rec} {N : Fr} {ops : Array Oper}
  (hmi : ∀ i o a s T kt r, mi i o -> Inv P s -> wm <= s.n -> TR P s.K s.ρ N T a -> evI i rec T wm s.n s.H kt = some r -> OpW P o a s wm kt r)
  {Q : Exit -> Act -> World -> Prop} {js' : List Nat} {k : Tm -> Nat -> Hp -> Out} {r : AV × Nat × Hp} : ∀ {is : List G} {js : List Nat} {s : St} {T : Tm} {a : Act},
   GS (fun g j => ∃ o, ops[j]? = some o /\ GOk P N.n mi ops g o) is js -> Inv P s -> wm <= s.n -> TR P s.K s.ρ N T a -> gs rec wm is T s.n s.H k = some r ->
   (∀ S a' t, TR P t.K t.ρ N S a' -> Ext P wm s t -> (∀ i, i ∉ dsts is -> lk i S = lk i T) -> (∀ i, i ∉ dsts is -> a'.tmps.getD i undef = a.tmps.getD i undef) -> k S t.n t.H = some r -> wpOpsIn (Fw ro) 0 P ops Q js' a' t.w) -> wpOpsIn (Fw ro) 0 P ops Q (js ++ js') a s.w := by
 intro is
 induction is with
 | nil =>
  intro js s T a h hi hw ht hk hQ
  cases h
  exact hQ T a s ht (.refl hi) (fun _ _ => rfl) (fun _ _ => rfl) hk
 | cons g is ih =>
  intro js s T a h hi hw ht hk hQ
  cases h with
  | z h2 =>
   rename_i d
   replace hk : frz wm s.H (lk d T) (fun v H => gs rec wm is ((d, v) :: T) s.n H k) = some r := hk
   obtain ⟨v, t, e1, e2, e3, e4, e5⟩ := frz_ok hty hi ht hk
   rw [<- e5]
   rw [<- e4] at e3
   refine ih h2 e1.inv (Nat.le_trans hw e1.nle) e2 e3 ?_
   intro S a' t' q1 q2 q3 q5 q4
   refine hQ S a' t' q1 (e1.trans q2) ?_ (fun i hni => q5 i (dsts_of hni).1) q4
   intro i hni
   obtain ⟨n1, n2⟩ := dsts_of hni
   rw [q3 i n1, lk_cons, if_neg]
   rintro rfl
   exact n2 rfl
  | cons h1 h2 =>
   rename_i j js
   obtain ⟨o, ho, hg⟩ := h1
   -- what follows the operation
   have rest : ∀ (v : Value) (av : AV) (t : St), VR P t.K t.ρ av v -> Ext P wm s t -> gs rec wm is (Ev.pushd g.dst av T) t.n t.H k = some r -> wpOpsIn (Fw ro) 0 P ops Q (js ++ js') (a.put o.dst v) t.w := by
    intro v av t hv he hk'
    have ht' := (ht.mono he.kle he.rle).pushd (d := g.dst) hg.lt hv
    rw [<- hg.dst] at ht'
    rw [<- hg.dst] at hk'
    refine ih h2 he.inv (Nat.le_trans hw he.nle) ht' hk' ?_
    intro S a' t' q1 q2 q3 q5 q4
    refine hQ S a' t' q1 (he.trans q2) ?_ ?_ q4
    rotate_left
    ·intro i hni
     obtain ⟨n1, n2⟩ := dsts_of hni
     rw [q5 i n1]
     exact getD_put fun e => n2 (G.slot_of (hg.dst ▸ e))
    intro i hni
    obtain ⟨n1, n2⟩ := dsts_of hni
    rw [q3 i n1]
    cases hd : o.dst with
    | none => rfl
    | some d =>
     show lk i ((d, av) :: T) = _
     rw [lk_cons, if_neg]
     rintro rfl
     exact n2 (G.slot_of (hg.dst ▸ hd))
   have skip : gs rec wm is (Ev.pushd g.dst .top T) s.n s.H k = some r -> wpOpsIn (Fw ro) 0 P ops Q (js ++ js') (a.put o.dst undef) s.w := fun hk' => rest undef .top s (.mkTop _) (.refl hi) hk'
   rw [List.cons_append, wpOpsIn]
   rw [ho]
   dsimp only
   have hgd := hg.guard
   cases g with
   | o d i =>
    have hwd : Region.wanted o (yielded ops a.tmps) = true := by simp [Region.wanted, hgd]
    rw [if_pos hwd]
    exact hmi i o a s T _ r (hg.ins i rfl) hi hw ht hk ro Q _ (fun v av t hv he hk' => rest v av t hv he hk')
   | n i =>
    have hwd : Region.wanted o (yielded ops a.tmps) = true := by simp [Region.wanted, hgd]
    rw [if_pos hwd]
    exact hmi i o a s T _ r (hg.ins i rfl) hi hw ht hk ro Q _ (fun v av t hv he hk' => rest v av t hv he hk')
   | g t w d i =>
    obtain ⟨jj, g1, g2, g3⟩ := hgd
    replace hk : (match lk t T with | .bool c => Bool.rec (gs rec wm is ((d, .top) :: T) s.n s.H k) (evI i rec T wm s.n s.H fun v n H => gs rec wm is ((d, v) :: T) n H k) (Bool.rec (not' c) c w) | _ => none) = some r := hk
    split at hk
    ·rename_i c hc
     have hwd := wanted_of ht g1 g2 g3 hc
     have hcw : (Bool.rec (not' c) c w : Bool) = (c == w) := by cases c <;> cases w <;> rfl
     rw [hcw] at hk
     cases hb : (c == w) with
     | true =>
      rw [hb] at hk hwd
      rw [if_pos hwd]
      exact hmi i o a s T _ r (hg.ins i rfl) hi hw ht hk ro Q _ (fun v av t hv he hk' => rest v av t hv he hk')
     | false =>
      rw [hb] at hk hwd
      rw [if_neg (by rw [hwd]; simp)]
      exact ⟨fun _ _ => trivial, skip hk⟩
    ·cases hk
   | gn t w i =>
    obtain ⟨jj, g1, g2, g3⟩ := hgd
    replace hk : (match lk t T with | .bool c => Bool.rec (gs rec wm is T s.n s.H k) (evI i rec T wm s.n s.H fun _ n H => gs rec wm is T n H k) (Bool.rec (not' c) c w) | _ => none) = some r := hk
    split at hk
    ·rename_i c hc
     have hwd := wanted_of ht g1 g2 g3 hc
     have hcw : (Bool.rec (not' c) c w : Bool) = (c == w) := by cases c <;> cases w <;> rfl
     rw [hcw] at hk
     cases hb : (c == w) with
     | true =>
      rw [hb] at hk hwd
      rw [if_pos hwd]
      exact hmi i o a s T _ r (hg.ins i rfl) hi hw ht hk ro Q _ (fun v av t hv he hk' => rest v av t hv he hk')
     | false =>
      rw [hb] at hk hwd
      rw [if_neg (by rw [hwd]; simp)]
      exact ⟨fun _ _ => trivial, skip hk⟩
    ·cases hk
   | z _ => exact hgd.elim
end
theorem gs_app {rec : Rec} {wm : Nat} {js : List G} {k : Kt} : ∀ {is : List G} {T : Tm} {n : Nat} {H : Hp}, gs rec wm (is ++ js) T n H k = gs rec wm is T n H (fun S n H => gs rec wm js S n H k) := by
 intro is
 induction is with
 | nil => intro T n H; rfl
 | cons g is ih =>
  intro T n H
  have ih' : ∀ T n H, gs rec wm (is ++ js) T n H k = gs rec wm is T n H (fun S n H => gs rec wm js S n H k) := fun T n H => ih
  cases g with
  | o d i =>
   show evI i rec T wm n H (fun v n H => gs rec wm (is ++ js) ((d, v) :: T) n H k) = evI i rec T wm n H (fun v n H => gs rec wm is ((d, v) :: T) n H _)
   congr 1; funext v n H; exact ih' _ _ _
  | n i =>
   show evI i rec T wm n H (fun v n H => gs rec wm (is ++ js) T n H k) = evI i rec T wm n H (fun v n H => gs rec wm is T n H _)
   congr 1; funext v n H; exact ih' _ _ _
  | g t w d i =>
   show (match lk t T with | .bool c => (Bool.rec (gs rec wm (is ++ js) ((d, .top) :: T) n H k) (evI i rec T wm n H fun v n H => gs rec wm (is ++ js) ((d, v) :: T) n H k) (Bool.rec (not' c) c w) : Out) | _ => none)
    = (match lk t T with | .bool c => (Bool.rec (gs rec wm is ((d, .top) :: T) n H (fun S n H => gs rec wm js S n H k)) (evI i rec T wm n H fun v n H => gs rec wm is ((d, v) :: T) n H (fun S n H => gs rec wm js S n H k)) (Bool.rec (not' c) c w) : Out) | _ => none)
   simp only [ih']
  | gn t w i =>
   show (match lk t T with | .bool c => (Bool.rec (gs rec wm (is ++ js) T n H k) (evI i rec T wm n H fun v n H => gs rec wm (is ++ js) T n H k) (Bool.rec (not' c) c w) : Out) | _ => none)
    = (match lk t T with | .bool c => (Bool.rec (gs rec wm is T n H (fun S n H => gs rec wm js S n H k)) (evI i rec T wm n H fun v n H => gs rec wm is T n H (fun S n H => gs rec wm js S n H k)) (Bool.rec (not' c) c w) : Out) | _ => none)
   simp only [ih']
  | z d =>
   show frz wm H (lk d T) (fun v H => gs rec wm (is ++ js) ((d, v) :: T) n H k) = frz wm H (lk d T) (fun v H => gs rec wm is ((d, v) :: T) n H _)
   congr 1; funext v H; exact ih' _ _ _
end Go.Proofs.YtgaghaggiblabaaGreatDoor.Ev
namespace Go.Proofs.YtgaghaggiblabaaGreatDoor.Ev
open Go.RowKit
section
variable {P : PX}
def itCode (i0 i1 i2 i3 i4 x0 x1 cnd c2 : Nat) (p0 p1 p2 p3 p4 : Array Oper) : Code :=
 .seq (.region i0 p0 false) (.block x0 (.loop (.seq (.region i1 p1 false) (.seq (.cond (.tmp cnd) .skip (.exit x0)) (.seq (.block x1 (.seq (.region i2 p2 false) (.seq (.region i3 p3 false) (.cond (.tmp c2) .ret .skip)))) (.region i4 p4 false))))))
structure ItParts (P : PX) (N i ln vl cnd ty c1 c2 c5 lq : Nat) (lx : O) (r0 r2 r3 : List G) (p0 p1 p2 p3 p4 : Array Oper) (M : I -> Oper -> Prop) : Prop where
 g0 : GS (fun g j => ∃ o, p0[j]? = some o /\ GOk P N M p0 g o) (r0 ++ [.o ln (.ln lq lx), .o i (.mv (.c (.int .i64 0)))]) (List.range p0.size)
 g1 : GS (fun g j => ∃ o, p1[j]? = some o /\ GOk P N M p1 g o) [.o cnd (.ilss (.t i) (.t ln))] (List.range p1.size)
 g2 : GS (fun g j => ∃ o, p2[j]? = some o /\ GOk P N M p2 g o) r2 (List.range p2.size)
 g3 : GS (fun g j => ∃ o, p3[j]? = some o /\ GOk P N M p3 g o) r3 (List.range' 1 (p3.size - 3))
 g3s : 3 <= p3.size
 o0 : ∃ o, p3[0]? = some o /\ o.op = .move (.tmp 0) /\ o.dst = some ty /\ o.guard = none
 oc : ∃ o ts, p3[p3.size - 2]? = some o /\ o.op = .call { callee := .value (.tmp ty), args := #[.tmp vl], argTypes := ts } /\ o.dst = some c1 /\ o.guard = none
 g3e : GS (fun g j => ∃ o, p3[j]? = some o /\ GOk P N M p3 g o) [.o c2 (.nt (.t c1))] [p3.size - 1]
 g4 : GS (fun g j => ∃ o, p4[j]? = some o /\ GOk P N M p4 g o) [.o c5 (.iadd (.t i) (.c (.int .i64 1))), .o i (.mv (.t c5))] (List.range p4.size)
 d0 : 0 ∉ dsts (r0 ++ [.o ln (.ln lq lx), .o i (.mv (.c (.int .i64 0)))]) /\ cnd ∉ dsts (r0 ++ [.o ln (.ln lq lx), .o i (.mv (.c (.int .i64 0)))])
 d2 : 0 ∉ dsts r2 /\ i ∉ dsts r2 /\ ln ∉ dsts r2
 d3 : ty ∉ dsts r3 /\ i ∉ dsts r3 /\ ln ∉ dsts r3
 ne : i ≠ ln /\ cnd ≠ i /\ cnd ≠ ln /\ ty ≠ i /\ ty ≠ ln /\ c1 ≠ i /\ c1 ≠ ln /\ c2 ≠ i /\ c2 ≠ ln /\ c5 ≠ i /\ c5 ≠ ln /\ cnd ≠ 0
 lt : ty < N /\ c1 < N
theorem nd1 {d j : Nat} {i : I} (h : j ≠ d) : j ∉ dsts [.o d i] := by
 intro hm
 have : j ∈ [d] := hm
 simp at this
 exact h this
theorem nd2 {d e j : Nat} {i i' : I} (h : j ≠ d) (h' : j ≠ e) : j ∉ dsts [.o d i, .o e i'] := by
 intro hm
 have : j ∈ [d, e] := hm
 simp at this
 rcases this with h1 | h1
 ·exact h h1
 ·exact h' h1
theorem range_split {n : Nat} (h : 3 <= n) : List.range n = [0] ++ (List.range' 1 (n - 3) ++ [n - 2, n - 1]) := by
 obtain ⟨m, rfl⟩ : ∃ m, n = m + 3 := ⟨n - 3, by omega⟩
 rw [List.range_eq_range', show m + 3 = 1 + (m + 2) by omega, <- List.range'_append_1 (s := 0) (m := 1) (n := m + 2), <- List.range'_append_1 (s := 0 + 1) (m := m) (n := 2)]
 simp [List.range'_succ]
 rw [show 1 + (m + 2) - 3 = m by omega, show 1 + (m + 2) - 2 = 1 + m by omega, show 1 + m + 1 = m + 2 by omega]
open Classical in
theorem it_ok (hty : TyOk P) {X : Nat × Nat × Nat} (hX : XsOk P X) {f : Nat} {fn : Func} {i0 i1 i2 i3 i4 x0 x1 i ln vl cnd ty c1 c2 c5 lq : Nat} {lx : O} {r0 r2 r3 : List G} {p0 p1 p2 p3 p4 : Array Oper} (hf : P.funcs[f]? = some fn) (hname : (fn.name == "runtime.NumGoroutine") = false) (hb : fn.body = some (itCode i0 i1 i2 i3 i4 x0 x1 cnd c2 p0 p1 p2 p3 p4)) (hres : fn.results = #[]) (hlN : ln <= fn.ntmps) (hlc : ln <= cnd)
  (hp : ItParts P fn.ntmps i ln vl cnd ty c1 c2 c5 lq lx r0 r2 r3 p0 p1 p2 p3 p4 (fun i o => mik P X i o = true)) : ItOk P f (r0 ++ [.o ln (.ln lq lx), .o i (.mv (.c (.int .i64 0)))]) r2 (.o ty (.mv (.t 0)) :: r3) ln vl := by
 refine ⟨⟨fn, hf, by rw [hb]; rfl, hname⟩, ?_⟩
 intro rec hrec hfn wm l G K KB r s ca vc hG1 hG2 hGs hlen hca hE hround
 have hmi : OpOk P ⟨fn.ntmps, []⟩ rec (fun i o => mik P X i o = true) := mik_ok hty hX hrec hfn
 have hmi' : ∀ i o a s T kt r, mik P X i o = true -> Inv P s -> wm <= s.n -> TR P s.K s.ρ ⟨fn.ntmps, []⟩ T a -> evI i rec T wm s.n s.H kt = some r -> OpW P o a s wm kt r := fun i o a s T kt r => hmi i o a s T wm kt r
 obtain ⟨n1, n2, n3, n4, n5, n6, n7, n8, n9, n10, n11, n12⟩ := hp.ne
 obtain ⟨hi, hw⟩ := hG1 s hGs
 have hend : ∀ T' a' (t : St), TR P t.K t.ρ ⟨fn.ntmps, []⟩ T' a' -> G t -> K t.n t.H = some r -> bodyPost P fn (fun e w' => ∃ v, ∃ t : St, e = .returned v /\ w' = t.w /\ G t /\ K t.n t.H = some r) .normal a' t.w := by
  intro T' a' t q1 q2 q3
  obtain ⟨_, v, _, _, e3⟩ := results_ok hty (hG1 t q2).1 q1 (rs := []) (fn := fn) (k := fun _ => some r) (r := r) (by rw [hres]; exact .nil) rfl
  exact ⟨q1.df, v, e3, v, t, rfl, rfl, q2, q3⟩
 refine callsIn_of_wp (F := Fw none) hf hb trivial ?_
 unfold itCode
 refine wpIn_seq (wpIn_region ?_)
 rw [<- List.append_nil (List.range p0.size)]
 have hE2 : gs rec wm (r0 ++ [.o ln (.ln lq lx), .o i (.mv (.c (.int .i64 0)))]) (args (.top :: ca) 0) s.n s.H (fun S n H => if lk i S = .int .i64 0 /\ ∃ m, lk ln S = .int .i64 m then (match lk ln S with
  | .int _ m => (Bool.rec (Bool.rec none (gs rec wm r2 S n H fun S n H => gs rec wm (.o ty (.mv (.t 0)) :: r3) S n H fun S n H => KB (lk vl S) n H) (beqI m 1)) (K n H) (beqI m 0) : Out)
  | _ => none) else none) = some r := by
  rw [<- hE, gs_app, gs_app]
  congr 1
  funext S n H
  have key : ∀ k : Kt, gs rec wm [.o ln (.ln lq lx), .o i (.mv (.c (.int .i64 0)))] S n H k = lnv lq (ev S lx) (fun m => k ((i, .int .i64 0) :: (ln, .int .i64 (.ofNat m)) :: S) n H) := fun k => rfl
  rw [key, key]
  congr 1
  funext m
  refine if_pos ⟨?_, ⟨.ofNat m, ?_⟩⟩
  ·show lk i ((i, .int .i64 0) :: (ln, .int .i64 (.ofNat m)) :: S) = _
   rw [lk_cons, if_pos rfl]
  ·show lk ln ((i, .int .i64 0) :: (ln, .int .i64 (.ofNat m)) :: S) = _
   rw [lk_cons, if_neg n1, lk_cons, if_pos rfl]
 have hstart : TR P s.K s.ρ ⟨fn.ntmps, []⟩ (args (.top :: ca) 0) _ := TR.start (.cons (.mkTop (fnA l)) hca) (N := fn.ntmps) (by rw [List.length_cons]; omega)
 refine gs_pre (ro := none) hty hmi' hp.g0 hi hw hstart hE2 ?_
 intro S a0 t0 s1 s2 s3 s4 s5
 have hG0 := hG2 s t0 hGs s2
 have y0 : a0.tmps.getD 0 undef = fnA l := by
  rw [s4 0 hp.d0.1, Array.getD_eq_getD_getElem?, Array.getElem?_append_left (by simp)]
  simp
 have hcnd : lk cnd S = .top := by
  rw [s3 cnd hp.d0.2, lk_args, if_pos (Nat.zero_le _), List.getElem?_eq_none (by rw [List.length_cons]; omega)]
  rfl
 split at s5
 case isFalse => cases s5
 rename_i hx
 obtain ⟨hx0, M, hxM⟩ := hx
 rw [hxM] at s5
 show (Code.block x0 _).wpIn _ _ _ _ a0 t0.w
 refine wpIn_block ?_
 refine wp_loop_count (fun c a w => ∃ T' t x M, w = t.w /\ TR P t.K t.ρ ⟨fn.ntmps, []⟩ T' a /\ G t /\ lk i T' = .int .i64 x /\ lk ln T' = .int .i64 M /\
  ((ltI x M = false /\ K t.n t.H = some r) \/ (c = 1 /\ x = 0 /\ M = 1 /\ a.tmps.getD 0 undef = fnA l /\ lk cnd T' = .top /\
   (gs rec wm r2 T' t.n t.H fun S n H => gs rec wm (.o ty (.mv (.t 0)) :: r3) S n H fun S n H => KB (lk vl S) n H) = some r))) 1 ?_ ?_
 ·refine ⟨S, t0, 0, M, rfl, s1, hG0, hx0, hxM, ?_⟩
  replace s5 : (Bool.rec (Bool.rec none (gs rec wm r2 S t0.n t0.H fun S n H => gs rec wm (.o ty (.mv (.t 0)) :: r3) S n H fun S n H => KB (lk vl S) n H) (beqI M 1)) (K t0.n t0.H) (beqI M 0) : Out) = some r := s5
  cases e0 : beqI M 0 with
  | true =>
   rw [e0] at s5
   rw [beqI_eq, beq_iff_eq] at e0
   subst e0
   exact .inl ⟨rfl, s5⟩
  | false =>
   rw [e0] at s5
   obtain ⟨e1, s6⟩ := brec_some s5
   rw [beqI_eq, beq_iff_eq] at e1
   subst e1
   exact .inr ⟨rfl, rfl, rfl, y0, hcnd, s6⟩
 ·rintro c a w ⟨T', t, x, M, rfl, q1, q2, q3, q4, q5⟩
  refine wpIn_seq (wpIn_region ?_)
  rw [<- List.append_nil (List.range p1.size)]
  refine gs_pre (ro := none) hty hmi' hp.g1 (hG1 t q2).1 (hG1 t q2).2 q1 (k := fun S n H => some (lk cnd S, n, H)) (r := (.bool (ltI x M), t.n, t.H)) ?_ ?_
  ·show (match lk i T' with | .int k a => (match lk ln T' with | .int k' b => (Bool.rec none (some (lk cnd ((cnd, .bool (ltI a b)) :: T'), t.n, t.H)) (keq k k') : Out) | _ => none) | _ => none) = _
   rw [q3, q4]
   show some (lk cnd ((cnd, .bool (ltI x M)) :: T'), t.n, t.H) = _
   rw [lk_cons, if_pos rfl]
  intro S a1 t1 u1 u2 u3 u4 u5
  simp only [Option.some.injEq, Prod.mk.injEq] at u5
  obtain ⟨u5, un, uH⟩ := u5
  have hG1' := hG2 t t1 q2 u2
  have hv := u1.at_ cnd
  rw [u5] at hv
  have hvb : a1.eval (.tmp cnd) = .bool (ltI x M) := hv.bool
  show (Code.seq _ _).wpIn _ _ _ _ a1 t1.w
  rcases q5 with ⟨e, hK⟩ | ⟨rfl, rfl, rfl, ey, ecnd, hk⟩
  ·rw [e] at hvb
   refine wpIn_seq (wpIn_cond_false hvb (wpIn_exit ?_))
   show (if x0 = x0 then _ else _)
   rw [if_pos rfl]
   exact hend S a1 t1 u1 hG1' (by rw [un, uH]; exact hK)
  ·refine wpIn_seq (wpIn_cond_true hvb (wpIn_skip ?_))
   show (Code.seq _ _).wpIn _ _ _ _ a1 t1.w
   refine wpIn_seq (wpIn_block (wpIn_seq (wpIn_region ?_)))
   have uT : TR P t1.K t1.ρ ⟨fn.ntmps, []⟩ T' a1 := u1.drop fun j => by
    by_cases e : j = cnd
    ·subst e; exact .inl ecnd
    ·exact .inr (u3 j (nd1 e)).symm
   have y1 : a1.tmps.getD 0 undef = fnA l := by rw [u4 0 (nd1 (Ne.symm n12))]; exact ey
   rw [<- un, <- uH] at hk
   rw [<- List.append_nil (List.range p2.size)]
   refine gs_pre (ro := none) hty hmi' hp.g2 (hG1 t1 hG1').1 (hG1 t1 hG1').2 uT hk ?_
   intro S2 a2 t2 v1 v2 v3 v4 v5
   have hG2' := hG2 t1 t2 hG1' v2
   have y2 : a2.tmps.getD 0 undef = fnA l := by rw [v4 0 hp.d2.1]; exact y1
   show (Code.seq _ _).wpIn _ _ _ _ a2 t2.w
   refine wpIn_seq (wpIn_region ?_)
   rw [range_split hp.g3s, List.singleton_append, wpOpsIn]
   obtain ⟨o0, h01, h02, h03, h04⟩ := hp.o0
   rw [h01]
   dsimp only
   rw [if_pos (by simp [Region.wanted, h04])]
   refine wpIn_of (w' := t2.w) (x := .value (fnA l)) (by simp only [execOp, h02, Act.eval, y2]; rfl) (fun d e => by cases e) ?_
   show wpOpsIn _ _ _ _ _ _ (a2.put o0.dst (fnA l)) t2.w
   rw [h03]
   have hv0 := v1.at_ 0
   rw [y2] at hv0
   have vT := v1.put (d := ty) hp.lt.1 hv0
   have v5' : gs rec wm r3 ((ty, lk 0 S2) :: S2) t2.n t2.H (fun S n H => KB (lk vl S) n H) = some r := v5
   have y3 : (a2.put (some ty) (fnA l)).tmps.getD ty undef = fnA l := eval_put (by rw [v1.size]; exact hp.lt.1)
   refine gs_pre (ro := none) hty hmi' hp.g3 (hG1 t2 hG2').1 (hG1 t2 hG2').2 vT v5' ?_
   intro S3 a3 t3 w1 w2 w3 w4 w5
   have hG3' := hG2 t2 t3 hG2' w2
   have y4 : a3.tmps.getD ty undef = fnA l := by rw [w4 ty hp.d3.1]; exact y3
   obtain ⟨fn', tm, as, bd, hy, hR⟩ := hround _ _ t3 hG3' (w1.at_ vl) w5
   obtain ⟨oc, ts, hc1, hc2, hc3, hc4⟩ := hp.oc
   rw [wpOpsIn, hc1]
   dsimp only
   rw [if_pos (by simp [Region.wanted, hc4])]
   refine wpIn_of (w' := t3.w) (x := .round l fn' tm as bd) ?_ (fun d e => by cases e) ⟨fun h => (by cases h), RoundIn.mono hR ?_⟩
   ·have hev : a3.eval (.tmp ty) = .func (.yield l) #[] #[] := y4
    unfold execOp
    simp only [hc2, resolve, Sem.run_bind, hev, Deferred.ofValue, Sem.run_pure, Result.andThen_ok, invoke]
    simp only [List.map_toArray, List.map_cons, List.map_nil, Act.eval, Array.empty_append]
    exact hy
   rintro e w' ⟨t4, rfl, rfl, g1, g2, g3, g4⟩
   show wpOpsIn _ _ _ _ _ _ (a3.put oc.dst (.bool true)) t4.w
   rw [hc3]
   have xT := (w1.mono g2 g3).put (d := c1) hp.lt.2 (VR.mkBool true)
   rw [<- List.append_nil [p3.size - 1]]
   refine gs_pre (ro := none) hty hmi' hp.g3e (hG1 t4 g1).1 (hG1 t4 g1).2 xT (k := fun S n H => some (lk c2 S, n, H)) (r := (.bool false, t4.n, t4.H)) ?_ ?_
   ·show (match lk c1 ((c1, AV.bool true) :: S3) with | .bool c => some (lk c2 ((c2, .bool (not' c)) :: (c1, AV.bool true) :: S3), t4.n, t4.H) | _ => none) = _
    rw [lk_cons, if_pos rfl]
    show some (lk c2 ((c2, .bool false) :: (c1, AV.bool true) :: S3), t4.n, t4.H) = _
    rw [lk_cons, if_pos rfl]
   intro S5 a5 t5 z1 z2 z3 z4 z5
   simp only [Option.some.injEq, Prod.mk.injEq] at z5
   obtain ⟨z5, zn, zH⟩ := z5
   have hG5 := hG2 t4 t5 g1 z2
   have hv5 := z1.at_ c2
   rw [z5] at hv5
   show (Code.cond _ _ _).wpIn _ _ _ _ a5 t5.w
   refine wpIn_cond_false (hv5.bool : a5.eval (.tmp c2) = _) (wpIn_skip ?_)
   show (Code.region i4 p4 false).wpIn _ _ _ _ a5 t5.w
   have keep : ∀ j, j ∉ dsts r2 -> j ∉ dsts r3 -> j ≠ ty -> j ≠ c1 -> j ≠ c2 -> lk j S5 = lk j T' := by
    intro j e1 e2 e3 e4 e5
    rw [z3 j (nd1 e5), lk_cons, if_neg (Ne.symm e4), w3 j e2, lk_cons, if_neg (Ne.symm e3), v3 j e1]
   have k1 : lk i S5 = .int .i64 0 := by rw [keep i hp.d2.2.1 hp.d3.2.1 (Ne.symm n4) (Ne.symm n6) (Ne.symm n8)]; exact q3
   have k2 : lk ln S5 = .int .i64 1 := by rw [keep ln hp.d2.2.2 hp.d3.2.2 (Ne.symm n5) (Ne.symm n7) (Ne.symm n9)]; exact q4
   refine wpIn_region ?_
   rw [<- List.append_nil (List.range p4.size)]
   refine gs_pre (ro := none) hty hmi' hp.g4 (hG1 t5 hG5).1 (hG1 t5 hG5).2 z1 (k := fun S n H => some (lk i S, n, H)) (r := (.int .i64 1, t5.n, t5.H)) ?_ ?_
   ·show eIadd (.t i) (.c (.int .i64 1)) rec S5 wm t5.n t5.H (fun v n H => some (lk i ((i, lk c5 ((c5, v) :: S5)) :: (c5, v) :: S5), n, H)) = _
    unfold eIadd
    rw [show ev S5 (.t i) = lk i S5 from rfl, k1]
    show some (lk i ((i, lk c5 ((c5, .int .i64 (wrap .i64 (Int.add 0 1))) :: S5)) :: (c5, .int .i64 (wrap .i64 (Int.add 0 1))) :: S5), t5.n, t5.H) = _
    rw [lk_cons, if_pos rfl, lk_cons, if_pos rfl]
    rfl
   intro S6 a6 t6 b1 b2 b3 b4 b5
   simp only [Option.some.injEq, Prod.mk.injEq] at b5
   obtain ⟨b5, bn, bH⟩ := b5
   refine ⟨0, by omega, S6, t6, 1, 1, rfl, b1, hG2 t5 t6 hG5 b2, b5, ?_, .inl ⟨rfl, by rw [bn, bH, zn, zH]; exact g4⟩⟩
   rw [b3 ln (nd2 (Ne.symm n11) (Ne.symm n1))]
   exact k2
end
end Go.Proofs.YtgaghaggiblabaaGreatDoor.Ev
namespace Go.Proofs.YtgaghaggiblabaaGreatDoor.Ev
open Go.RowKit
mutual
noncomputable def inst (X : Nat -> AV) (N : Nat -> Int) : AV -> AV
 | .pv a => .pv (inst X N a)
 | .sv l f => .sv (instL X N l) f
 | .agg t l => .agg t (instL X N l)
 | .tup l => .tup (instL X N l)
 | .fn f fi ca => .fn f (instL X N fi) (instL X N ca)
 | .ob i _ => X i
 | .cn i => .int .i64 (N i)
 | a => a
noncomputable def instL (X : Nat -> AV) (N : Nat -> Int) : List AV -> List AV
 | [] => []
 | a :: l => inst X N a :: instL X N l
end
mutual
def okt (X : Nat -> AV) : AV -> Prop
 | .pv a => okt X a
 | .sv l _ => oktL X l
 | .agg _ l => oktL X l
 | .tup l => oktL X l
 | .fn _ fi ca => oktL X fi /\ oktL X ca
 | .ob i t => lc (X i) = t
 | _ => True
def oktL (X : Nat -> AV) : List AV -> Prop
 | [] => True
 | a :: l => okt X a /\ oktL X l
end
mutual
noncomputable def nrf : AV -> Bool
 | .agg _ l => nrfL l
 | .tup l => nrfL l
 | .fn _ fi ca => and' (nrfL fi) (nrfL ca)
 | .ptr .. => false
 | .sr .. => false
 | .mp _ => false
 | _ => true
noncomputable def nrfL : List AV -> Bool
 | [] => true
 | a :: l => and' (nrf a) (nrfL l)
end
mutual
noncomputable def ntg : AV -> Bool
 | .pv a => ntg a
 | .sv l _ => ntgL l
 | .agg _ l => ntgL l
 | .tup l => ntgL l
 | .fn _ fi ca => and' (ntgL fi) (ntgL ca)
 | .ob .. => false
 | .cn _ => false
 | _ => true
noncomputable def ntgL : List AV -> Bool
 | [] => true
 | a :: l => and' (ntg a) (ntgL l)
end
theorem instL_length (X : Nat -> AV) (N : Nat -> Int) : ∀ l : List AV, (instL X N l).length = l.length
 | [] => by simp [instL]
 | a :: l => by simp [instL, instL_length X N l]
section
variable {P : PX} {K : Kap}
theorem R.unfold {ρ : Rho} {as : List AV} {ls : List Lay} {vs : List Value} (h : R P K ρ as ls vs) : R P K ρ (instL P.X P.C as) ls vs := by
 induction h with
 | nil => rw [instL]; exact .nil
 | int _ ih => rw [instL, inst]; exact .int ih; all_goals (intros; contradiction)
 | bool _ ih => rw [instL, inst]; exact .bool ih; all_goals (intros; contradiction)
 | str _ ih => rw [instL, inst]; exact .str ih; all_goals (intros; contradiction)
 | nilp _ ih => rw [instL, inst]; exact .nilp ih; all_goals (intros; contradiction)
 | ptr h1 h2 h3 _ ih => rw [instL, inst]; exact .ptr h1 h2 h3 ih; all_goals (intros; contradiction)
 | pv h1 _ _ ih1 ih2 =>
  rw [instL, inst]
  rw [instL, instL] at ih1
  exact .pv h1 ih1 ih2
 | sv h1 _ h3 h4 _ ih1 ih2 =>
  rename_i ρ es full l cs c off cap as ls vs _ _
  rw [instL, inst]
  have e := instL_length P.X P.C es
  rw [<- e] at ih1 h3 h4
  have := R.sv (full := full) h1 ih1 h3 h4 ih2
  rw [e] at this
  exact this
 | sn _ ih => rw [instL, inst]; exact .sn ih; all_goals (intros; contradiction)
 | se _ ih => rw [instL, inst]; exact .se ih; all_goals (intros; contradiction)
 | sr h1 h2 h3 h4 h5 h6 _ ih => rw [instL, inst]; exact .sr h1 h2 h3 h4 h5 h6 ih; all_goals (intros; contradiction)
 | agg h1 _ _ ih1 ih2 => rw [instL, inst]; exact .agg h1 ih1 ih2
 | fn _ _ _ ih1 ih2 ih3 =>
  rename_i ρ f fi ca vf vc as ls vs _ _ _
  rw [instL, inst]
  rw [<- instL_length P.X P.C fi] at ih1
  rw [<- instL_length P.X P.C ca] at ih2
  exact .fn ih1 ih2 ih3
 | nilf _ ih => rw [instL, inst]; exact .nilf ih; all_goals (intros; contradiction)
 | mpm h1 _ ih => rw [instL, inst]; exact .mpm h1 ih; all_goals (intros; contradiction)
 | mpi h1 _ ih => rw [instL, inst]; exact .mpi h1 ih; all_goals (intros; contradiction)
 | nilm _ ih => rw [instL, inst]; exact .nilm ih; all_goals (intros; contradiction)
 | ob h1 _ _ ih2 =>
  rw [instL, inst]
  exact (h1.mono (fun _ _ e => e) (fun _ _ e => by cases e)).cons ih2
 | cn _ ih => rw [instL, inst]; exact .int ih
theorem R.free {ρ : Rho} {as : List AV} {ls : List Lay} {vs : List Value} (h : R P K ρ as ls vs) : nrfL as = true -> R P K (fun _ => none) as ls vs := by
 induction h with
 | nil => intro _; exact .nil
 | int _ ih => intro hn; exact .int (ih (and'_ok hn).2)
 | bool _ ih => intro hn; exact .bool (ih (and'_ok hn).2)
 | str _ ih => intro hn; exact .str (ih (and'_ok hn).2)
 | nilp _ ih => intro hn; exact .nilp (ih (and'_ok hn).2)
 | ptr _ _ _ _ _ => intro hn; have := (and'_ok hn).1; simp [nrf] at this
 | pv h1 h2 _ _ ih2 => intro hn; exact .pv h1 h2 (ih2 (and'_ok hn).2)
 | sv h1 h2 h3 h4 _ _ ih2 => intro hn; exact .sv h1 h2 h3 h4 (ih2 (and'_ok hn).2)
 | sn _ ih => intro hn; exact .sn (ih (and'_ok hn).2)
 | se _ ih => intro hn; exact .se (ih (and'_ok hn).2)
 | sr _ _ _ _ _ _ _ _ => intro hn; have := (and'_ok hn).1; simp [nrf] at this
 | agg h1 _ _ ih1 ih2 => intro hn; have h := and'_ok hn; rw [nrf] at h; exact .agg h1 (ih1 h.1) (ih2 h.2)
 | fn _ _ _ ih1 ih2 ih3 => intro hn; have h := and'_ok hn; rw [nrf] at h; exact .fn (ih1 (and'_ok h.1).1) (ih2 (and'_ok h.1).2) (ih3 h.2)
 | nilf _ ih => intro hn; exact .nilf (ih (and'_ok hn).2)
 | mpm _ _ _ => intro hn; have := (and'_ok hn).1; simp [nrf] at this
 | mpi _ _ _ => intro hn; have := (and'_ok hn).1; simp [nrf] at this
 | nilm _ ih => intro hn; exact .nilm (ih (and'_ok hn).2)
 | ob h1 _ _ ih2 => intro hn; exact .ob h1 (ih2 (and'_ok hn).2)
 | cn _ ih => intro hn; exact .cn (ih (and'_ok hn).2)
end
end Go.Proofs.YtgaghaggiblabaaGreatDoor.Ev
namespace Go.Proofs.YtgaghaggiblabaaGreatDoor.Ev
open Go.RowKit
section
variable {P : PX} {K : Kap}
theorem cons_size {a : AV} {r : List AV} {n : Nat} (h : SizeOf.sizeOf (a :: r) < n + 1) : SizeOf.sizeOf a < n /\ SizeOf.sizeOf r < n := by
 rw [List.cons.sizeOf_spec] at h
 omega
theorem R.fold_to (hX : ∀ i, nrf (P.X i) = true) : ∀ (n : Nat) (as : List AV) {ρ : Rho} {ls : List Lay} {vs : List Value}, SizeOf.sizeOf as < n -> R P K ρ (instL P.X P.C as) ls vs -> oktL P.X as -> R P K ρ as ls vs
 | 0, _, _, _, _, hn, _, _ => absurd hn (Nat.not_lt_zero _)
 | n + 1, [], ρ, ls, vs, _, h, _ => by rw [instL] at h; exact h
 | n + 1, .int k m :: r, ρ, ls, vs, hn, h, ho => by
  rw [instL, inst] at h
  ·cases h with | int h => exact .int (R.fold_to hX n r (cons_size hn).2 h ho.2)
  all_goals (intros; contradiction)
 | n + 1, .bool b :: r, ρ, ls, vs, hn, h, ho => by
  rw [instL, inst] at h
  ·cases h with | bool h => exact .bool (R.fold_to hX n r (cons_size hn).2 h ho.2)
  all_goals (intros; contradiction)
 | n + 1, .str s :: r, ρ, ls, vs, hn, h, ho => by
  rw [instL, inst] at h
  ·cases h with | str h => exact .str (R.fold_to hX n r (cons_size hn).2 h ho.2)
  all_goals (intros; contradiction)
 | n + 1, .nilp :: r, ρ, ls, vs, hn, h, ho => by
  rw [instL, inst] at h
  ·cases h with | nilp h => exact .nilp (R.fold_to hX n r (cons_size hn).2 h ho.2)
  all_goals (intros; contradiction)
 | n + 1, .ptr b i p t :: r, ρ, ls, vs, hn, h, ho => by
  rw [instL, inst] at h
  ·generalize e : AV.ptr b i p t = q at h
   cases h with
   | ptr g1 g2 g3 g4 => cases e; exact .ptr g1 g2 g3 (R.fold_to hX n r (cons_size hn).2 g4 ho.2)
   | _ => cases e
  all_goals (intros; contradiction)
 | n + 1, .pv a :: r, ρ, ls, vs, hn, h, ho => by
  rw [instL, inst] at h
  cases h with
  | pv h1 h2 h3 =>
   have e : instL P.X P.C [a] = [inst P.X P.C a] := by rw [instL, instL]
   rw [<- e] at h2
   exact .pv h1 (R.fold_to hX n [a] (by have h1 : 1 <= SizeOf.sizeOf r := (by cases r <;> simp <;> omega); rw [List.cons.sizeOf_spec, AV.pv.sizeOf_spec] at hn; rw [List.cons.sizeOf_spec, List.nil.sizeOf_spec]; omega) h2 ⟨ho.1, trivial⟩) (R.fold_to hX n r (cons_size hn).2 h3 ho.2)
 | n + 1, .sv l f :: r, ρ, ls, vs, hn, h, ho => by
  rw [instL, inst] at h
  cases h with
  | sv h1 h2 h3 h4 h5 =>
   rw [instL_length] at h2 h3 h4
   have := R.sv (ρ := ρ) (full := f) h1 (R.fold_to hX n l (by have := (cons_size hn).1; rw [AV.sv.sizeOf_spec] at this; omega) h2 ho.1) h3 h4 (R.fold_to hX n r (cons_size hn).2 h5 ho.2)
   rw [instL_length]
   exact this
 | n + 1, .sn :: r, ρ, ls, vs, hn, h, ho => by
  rw [instL, inst] at h
  ·cases h with | sn h => exact .sn (R.fold_to hX n r (cons_size hn).2 h ho.2)
  all_goals (intros; contradiction)
 | n + 1, .se :: r, ρ, ls, vs, hn, h, ho => by
  rw [instL, inst] at h
  ·cases h with | se h => exact .se (R.fold_to hX n r (cons_size hn).2 h ho.2)
  all_goals (intros; contradiction)
 | n + 1, .sr b o m c q t :: r, ρ, ls, vs, hn, h, ho => by
  rw [instL, inst] at h
  ·generalize e : AV.sr b o m c q t = q' at h
   cases h with
   | sr g1 g2 g3 g4 g5 g6 g7 => cases e; exact .sr g1 g2 g3 g4 g5 g6 (R.fold_to hX n r (cons_size hn).2 g7 ho.2)
   | _ => cases e
  all_goals (intros; contradiction)
 | n + 1, .agg t l :: r, ρ, ls, vs, hn, h, ho => by
  rw [instL, inst] at h
  cases h with
  | agg h1 h2 h3 => exact .agg h1 (R.fold_to hX n l (by have := (cons_size hn).1; rw [AV.agg.sizeOf_spec] at this; omega) h2 ho.1) (R.fold_to hX n r (cons_size hn).2 h3 ho.2)
 | n + 1, .tup l :: r, ρ, ls, vs, hn, h, ho => by
  rw [instL, inst] at h
  cases h
 | n + 1, .fn f fi ca :: r, ρ, ls, vs, hn, h, ho => by
  rw [instL, inst] at h
  cases h with
  | fn h1 h2 h3 =>
   rw [instL_length] at h1 h2
   exact .fn (R.fold_to hX n fi (by have := (cons_size hn).1; rw [AV.fn.sizeOf_spec] at this; omega) h1 ho.1.1) (R.fold_to hX n ca (by have := (cons_size hn).1; rw [AV.fn.sizeOf_spec] at this; omega) h2 ho.1.2) (R.fold_to hX n r (cons_size hn).2 h3 ho.2)
 | n + 1, .nilf :: r, ρ, ls, vs, hn, h, ho => by
  rw [instL, inst] at h
  ·cases h with | nilf h => exact .nilf (R.fold_to hX n r (cons_size hn).2 h ho.2)
  all_goals (intros; contradiction)
 | n + 1, .mp b :: r, ρ, ls, vs, hn, h, ho => by
  rw [instL, inst] at h
  ·cases h with
   | mpm g h => exact .mpm g (R.fold_to hX n r (cons_size hn).2 h ho.2)
   | mpi g h => exact .mpi g (R.fold_to hX n r (cons_size hn).2 h ho.2)
  all_goals (intros; contradiction)
 | n + 1, .nilm :: r, ρ, ls, vs, hn, h, ho => by
  rw [instL, inst] at h
  ·cases h with | nilm h => exact .nilm (R.fold_to hX n r (cons_size hn).2 h ho.2)
  all_goals (intros; contradiction)
 | n + 1, .top :: r, ρ, ls, vs, hn, h, ho => by
  rw [instL, inst] at h
  ·cases h
  all_goals (intros; contradiction)
 | n + 1, .ob i t :: r, ρ, ls, vs, hn, h, ho => by
  rw [instL, inst] at h
  cases ls with
  | nil => have := h.len; simp at this
  | cons l ls =>
   obtain ⟨c, d, rfl, h1, h2⟩ := h.uncons
   have e : lc (P.X i) = t := ho.1
   rw [lc_lay h1] at e
   subst e
   exact .ob (h1.free (by rw [nrfL, nrfL, hX i]; rfl)) (R.fold_to hX n r (cons_size hn).2 h2 ho.2)
 | n + 1, .cn i :: r, ρ, ls, vs, hn, h, ho => by
  rw [instL, inst] at h
  cases h with | int h => exact .cn (R.fold_to hX n r (cons_size hn).2 h ho.2)
theorem R.fold (hX : ∀ i, nrf (P.X i) = true) {as : List AV} {ρ : Rho} {ls : List Lay} {vs : List Value} (h : R P K ρ (instL P.X P.C as) ls vs) (ho : oktL P.X as) : R P K ρ as ls vs := R.fold_to hX _ as (Nat.lt_succ_self _) h ho
end
theorem poff_px {p : Program} {X X' : Nat -> AV} {N N' : Nat -> Int} {hN : ∀ i, 1 <= N i /\ N i <= 1000000000 /\ (i <= 99 -> N i <= 99) /\ (100 <= i -> i <= 1000 -> N (i + 1) = N i + 1)} {hN' : ∀ i, 1 <= N' i /\ N' i <= 1000000000 /\ (i <= 99 -> N' i <= 99) /\ (100 <= i -> i <= 1000 -> N' (i + 1) = N' i + 1)} : ∀ (l : Lay) (q : List Nat), poff ⟨p, X, N, hN⟩ l q = poff ⟨p, X', N', hN'⟩ l q
 | l, [] => by cases l <;> rfl
 | none, _ :: _ => rfl
 | some t, i :: q => by
  simp only [poff]
  have e : comps ⟨p, X, N, hN⟩ t = comps ⟨p, X', N', hN'⟩ t := rfl
  rw [e]
  cases comps ⟨p, X', N', hN'⟩ t with
  | none => rfl
  | some ls =>
   dsimp only
   cases ls[i]? with
   | none => rfl
   | some l =>
    dsimp only
    rw [poff_px l q]
    rfl
theorem R.indep {p : Program} {X X' : Nat -> AV} {N N' : Nat -> Int} {hN : ∀ i, 1 <= N i /\ N i <= 1000000000 /\ (i <= 99 -> N i <= 99) /\ (100 <= i -> i <= 1000 -> N (i + 1) = N i + 1)} {hN' : ∀ i, 1 <= N' i /\ N' i <= 1000000000 /\ (i <= 99 -> N' i <= 99) /\ (100 <= i -> i <= 1000 -> N' (i + 1) = N' i + 1)} {K : Kap} {ρ : Rho} {as : List AV} {ls : List Lay} {vs : List Value} (h : R ⟨p, X, N, hN⟩ K ρ as ls vs) : ntgL as = true -> R ⟨p, X', N', hN'⟩ K ρ as ls vs := by
 induction h with
 | nil => intro _; exact .nil
 | int _ ih => intro hn; exact .int (ih (and'_ok hn).2)
 | bool _ ih => intro hn; exact .bool (ih (and'_ok hn).2)
 | str _ ih => intro hn; exact .str (ih (and'_ok hn).2)
 | nilp _ ih => intro hn; exact .nilp (ih (and'_ok hn).2)
 | ptr h1 h2 h3 _ ih => intro hn; exact .ptr (P := ⟨p, X', N', hN'⟩) h1 h2 ((poff_px _ _).symm.trans h3) (ih (and'_ok hn).2)
 | pv h1 _ _ ih1 ih2 => intro hn; have h := and'_ok hn; rw [ntg] at h; exact .pv h1 (ih1 (by rw [ntgL, ntgL, h.1]; rfl)) (ih2 h.2)
 | sv h1 _ h3 h4 _ ih1 ih2 => intro hn; have h := and'_ok hn; rw [ntg] at h; exact .sv h1 (ih1 h.1) h3 h4 (ih2 h.2)
 | sn _ ih => intro hn; exact .sn (ih (and'_ok hn).2)
 | se _ ih => intro hn; exact .se (ih (and'_ok hn).2)
 | sr h1 h2 h3 h4 h5 h6 _ ih => intro hn; exact .sr (P := ⟨p, X', N', hN'⟩) h1 h2 h3 h4 h5 h6 (ih (and'_ok hn).2)
 | agg h1 _ _ ih1 ih2 => intro hn; have h := and'_ok hn; rw [ntg] at h; exact .agg (P := ⟨p, X', N', hN'⟩) h1 (ih1 h.1) (ih2 h.2)
 | fn _ _ _ ih1 ih2 ih3 => intro hn; have h := and'_ok hn; rw [ntg] at h; exact .fn (ih1 (and'_ok h.1).1) (ih2 (and'_ok h.1).2) (ih3 h.2)
 | nilf _ ih => intro hn; exact .nilf (ih (and'_ok hn).2)
 | mpm h1 _ ih => intro hn; exact .mpm h1 (ih (and'_ok hn).2)
 | mpi h1 _ ih => intro hn; exact .mpi h1 (ih (and'_ok hn).2)
 | nilm _ ih => intro hn; exact .nilm (ih (and'_ok hn).2)
 | ob _ _ _ _ => intro hn; have := (and'_ok hn).1; simp [ntg] at this
 | cn _ _ => intro hn; have := (and'_ok hn).1; simp [ntg] at this
end Go.Proofs.YtgaghaggiblabaaGreatDoor.Ev
namespace Go.Proofs.YtgaghaggiblabaaGreatDoor.Ev
open Go.RowKit
def none' : Rho := fun _ => none
def Pur (P : PX) (f : Nat) (as : List AV) (r : AV) : Prop := FnOk P f /\ ∀ (K : Kap) (w : World) (vs : List Value), KOk K w -> All2 (VR P K none') as vs ->
 Calls P f vs.toArray w fun e w' => ∃ v K', e = .returned v /\ VR P K' none' r v /\ KOk K' w' /\ Kle K K' /\ (∀ c a, K' c = some a -> K c = some a \/ w.heap.size <= c) /\ Below w.heap.size w w'
theorem inv_none {P : PX} {K : Kap} {w : World} (h : KOk K w) : Inv P ⟨K, none', 0, [], w⟩ := ⟨h, ⟨fun b ab e => (by cases e), fun b b' x y c k k' e => (by cases e)⟩, fun b x e => (by cases e)⟩
theorem img_none {c : Nat} : ¬ Img none' [] c := by rintro ⟨b, ab, k, e, _⟩; cases e
theorem pur_of {P : PX} {f : Nat} {as : List AV} {r : AV} (h : Knows P f as r) : Pur P f as r := by
 refine ⟨h.1, ?_⟩
 intro K w vs hk hv
 refine (h.2 0 ⟨K, none', 0, [], w⟩ vs (inv_none hk) (Nat.le_refl _) hv).mono ?_
 rintro e w' ⟨v, t, rfl, rfl, q1, q2, q3, q4⟩
 have hρ : t.ρ = none' := by
  funext b
  cases e : t.ρ b with
  | none => rfl
  | some x => have := q2.inv.rdom b x e; rw [q3] at this; cases this
 rw [hρ] at q1
 refine ⟨v, t.K, rfl, q1, q2.inv.kok, q2.kle, ?_, ⟨q2.os, q2.tape, q2.out, q2.size, fun k hlt => q2.frame k hlt img_none⟩⟩
 intro c a e
 rcases q2.knew c a e with e | e | e
 ·exact .inl e
 ·exact .inr e
 ·exact absurd e img_none
section
variable {P : PX} {K : Kap} {ρ : Rho}
theorem V1.free {a : AV} {v : Value} (h : V1 P K ρ a v) (hn : nrf a = true) : V1 P K none' a v := by
 rcases h with h | ⟨l, c, h, e⟩
 ·exact .inl h
 ·exact .inr ⟨l, c, h.free (by rw [nrfL, nrfL, hn]; rfl), e⟩
theorem V1L.free : ∀ {as : List AV} {vs : List Value}, All2 (V1 P K ρ) as vs -> nrfL as = true -> All2 (V1 P K none') as vs
 | [], _, h, _ => by cases h; exact .nil
 | a :: as, _, h, hn => by
  cases h with
  | cons h1 h2 => exact .cons (h1.free (and'_ok hn).1) (V1L.free h2 (and'_ok hn).2)
theorem VR.free {a : AV} {v : Value} (h : VR P K ρ a v) (hn : nrf a = true) : VR P K none' a v := by
 rcases h with h | ⟨l, vs, rfl, rfl, h⟩
 ·exact .inl (h.free hn)
 ·exact .inr ⟨l, vs, rfl, rfl, V1L.free h (by rwa [nrf] at hn)⟩
theorem VRL.free : ∀ {as : List AV} {vs : List Value}, All2 (VR P K ρ) as vs -> nrfL as = true -> All2 (VR P K none') as vs
 | [], _, h, _ => by cases h; exact .nil
 | a :: as, _, h, hn => by
  cases h with
  | cons h1 h2 => exact .cons (h1.free (and'_ok hn).1) (VRL.free h2 (and'_ok hn).2)
end
theorem knows_pur {P : PX} {f : Nat} {as : List AV} {r : AV} (h : Pur P f as r) (hn : nrfL as = true) : Knows P f as r := by
 refine ⟨h.1, ?_⟩
 intro wm s vs hi hw hv
 refine (h.2 s.K s.w vs hi.kok (VRL.free hv hn)).mono ?_
 rintro e w' ⟨v, K', rfl, q1, q2, q3, q4, q5⟩
 refine ⟨v, ⟨K', s.ρ, s.n, s.H, w'⟩, rfl, rfl, q1.mono (fun _ _ e => e) (fun _ _ e => by cases e), ?_, rfl, rfl⟩
 refine ⟨⟨q2, ⟨?_, hi.hr.inj⟩, hi.rdom⟩, q3, fun _ _ e => e, fun _ _ => rfl, Nat.le_refl _, fun c hc _ => q5.block c hc, q5.size, q5.os, q5.tape, q5.output, fun _ _ => rfl, fun _ _ e => e, ?_, fun _ e => .inr e⟩
 ·intro b ab e
  obtain ⟨c, k, o, h1, h2, h3, h4⟩ := hi.hr.blk b ab e
  have hlt : c < s.w.heap.size := (Array.getElem?_eq_some_iff.1 h3).1
  refine ⟨c, k, o, h1, ?_, (q5.block c hlt).trans h3, h4.mono q3 (fun _ _ e => e)⟩
  cases hx : K' c with
  | none => exact hx
  | some a =>
   rcases q4 c a hx with e1 | e1
   ·rw [h2] at e1; cases e1
   ·omega
 ·intro c a e
  rcases q4 c a e with e1 | e1
  ·exact .inl e1
  ·exact .inr (.inl e1)
structure GX (X : Nat -> AV) : Prop where
 nrf : ∀ i, nrf (X i) = true
 top : ∀ i, X i ≠ .top
 tup : ∀ i l, X i ≠ .tup l
section
variable {P : PX} {K : Kap} {ρ : Rho}
theorem V1.unfold {a : AV} {v : Value} (h : V1 P K ρ a v) : V1 P K ρ (inst P.X P.C a) v := by
 rcases h with rfl | ⟨l, c, h, e⟩
 ·exact .inl (by rw [inst]; all_goals (intros; contradiction))
 ·have := h.unfold
  rw [instL, instL] at this
  exact .inr ⟨l, c, this, e⟩
theorem V1L.unfold : ∀ {as : List AV} {vs : List Value}, All2 (V1 P K ρ) as vs -> All2 (V1 P K ρ) (instL P.X P.C as) vs
 | [], _, h => by cases h; rw [instL]; exact .nil
 | a :: as, _, h => by
  cases h with
  | cons h1 h2 => rw [instL]; exact .cons h1.unfold (V1L.unfold h2)
theorem VR.unfold {a : AV} {v : Value} (h : VR P K ρ a v) : VR P K ρ (inst P.X P.C a) v := by
 rcases h with h | ⟨l, vs, rfl, rfl, h⟩
 ·exact .inl h.unfold
 ·exact .inr ⟨_, vs, by rw [inst], rfl, V1L.unfold h⟩
theorem VRL.unfold : ∀ {as : List AV} {vs : List Value}, All2 (VR P K ρ) as vs -> All2 (VR P K ρ) (instL P.X P.C as) vs
 | [], _, h => by cases h; rw [instL]; exact .nil
 | a :: as, _, h => by
  cases h with
  | cons h1 h2 => rw [instL]; exact .cons h1.unfold (VRL.unfold h2)
theorem V1.fold (hX : GX P.X) {a : AV} {v : Value} (h : V1 P K ρ (inst P.X P.C a) v) (ho : okt P.X a) : V1 P K ρ a v := by
 rcases h with h | ⟨l, c, h, e⟩
 ·cases a <;> first | exact .inl rfl | (rw [inst] at h; exact absurd h (hX.top _)) | (rw [inst] at h <;> first | (cases h; done) | (intros; contradiction))
 ·refine .inr ⟨l, c, R.fold hX.nrf (as := [a]) (by rw [instL, instL]; exact h) ⟨ho, trivial⟩, e⟩
theorem V1L.fold (hX : GX P.X) : ∀ {as : List AV} {vs : List Value}, All2 (V1 P K ρ) (instL P.X P.C as) vs -> oktL P.X as -> All2 (V1 P K ρ) as vs
 | [], _, h, _ => by rw [instL] at h; cases h; exact .nil
 | a :: as, _, h, ho => by
  rw [instL] at h
  cases h with
  | cons h1 h2 => exact .cons (h1.fold hX ho.1) (V1L.fold hX h2 ho.2)
theorem VR.fold (hX : GX P.X) {a : AV} {v : Value} (h : VR P K ρ (inst P.X P.C a) v) (ho : okt P.X a) : VR P K ρ a v := by
 rcases h with h | ⟨l, vs, h1, rfl, h2⟩
 ·exact .inl (h.fold hX ho)
 ·cases a <;> first | (rw [inst] at h1; exact absurd h1 (hX.tup _ _)) | skip
  case tup l' =>
   rw [inst] at h1
   cases h1
   exact .inr ⟨l', vs, rfl, rfl, V1L.fold hX h2 ho⟩
  all_goals (rw [inst] at h1 <;> first | (cases h1; done) | (intros; contradiction))
theorem VRL.fold (hX : GX P.X) : ∀ {as : List AV} {vs : List Value}, All2 (VR P K ρ) (instL P.X P.C as) vs -> oktL P.X as -> All2 (VR P K ρ) as vs
 | [], _, h, _ => by rw [instL] at h; cases h; exact .nil
 | a :: as, _, h, ho => by
  rw [instL] at h
  cases h with
  | cons h1 h2 => exact .cons (h1.fold hX ho.1) (VRL.fold hX h2 ho.2)
end
section
variable {p : Program} {X X' : Nat -> AV} {N N' : Nat -> Int} {hN : ∀ i, 1 <= N i /\ N i <= 1000000000 /\ (i <= 99 -> N i <= 99) /\ (100 <= i -> i <= 1000 -> N (i + 1) = N i + 1)} {hN' : ∀ i, 1 <= N' i /\ N' i <= 1000000000 /\ (i <= 99 -> N' i <= 99) /\ (100 <= i -> i <= 1000 -> N' (i + 1) = N' i + 1)} {K : Kap} {ρ : Rho}
theorem V1.indep {a : AV} {v : Value} (h : V1 ⟨p, X, N, hN⟩ K ρ a v) (hn : ntg a = true) : V1 ⟨p, X', N', hN'⟩ K ρ a v := by
 rcases h with h | ⟨l, c, h, e⟩
 ·exact .inl h
 ·exact .inr ⟨l, c, h.indep (by rw [ntgL, ntgL, hn]; rfl), e⟩
theorem V1L.indep : ∀ {as : List AV} {vs : List Value}, All2 (V1 ⟨p, X, N, hN⟩ K ρ) as vs -> ntgL as = true -> All2 (V1 ⟨p, X', N', hN'⟩ K ρ) as vs
 | [], _, h, _ => by cases h; exact .nil
 | a :: as, _, h, hn => by
  cases h with
  | cons h1 h2 => exact .cons (h1.indep (and'_ok hn).1) (V1L.indep h2 (and'_ok hn).2)
theorem VR.indep {a : AV} {v : Value} (h : VR ⟨p, X, N, hN⟩ K ρ a v) (hn : ntg a = true) : VR ⟨p, X', N', hN'⟩ K ρ a v := by
 rcases h with h | ⟨l, vs, rfl, rfl, h⟩
 ·exact .inl (h.indep hn)
 ·exact .inr ⟨l, vs, rfl, rfl, V1L.indep h (by rwa [ntg] at hn)⟩
theorem VRL.indep : ∀ {as : List AV} {vs : List Value}, All2 (VR ⟨p, X, N, hN⟩ K ρ) as vs -> ntgL as = true -> All2 (VR ⟨p, X', N', hN'⟩ K ρ) as vs
 | [], _, h, _ => by cases h; exact .nil
 | a :: as, _, h, hn => by
  cases h with
  | cons h1 h2 => exact .cons (h1.indep (and'_ok hn).1) (VRL.indep h2 (and'_ok hn).2)
theorem Pur.put {f : Nat} {as : List AV} {r : AV} (h : Pur ⟨p, X, N, hN⟩ f as r) (hX : GX X) (ho : oktL X as) (h1 : ntgL (instL X N as) = true) (h2 : ntg (inst X N r) = true) : Pur ⟨p, X', N', hN'⟩ f (instL X N as) (inst X N r) := by
 refine ⟨⟨h.1.fn⟩, ?_⟩
 intro K w vs hk hv
 have hv' : All2 (VR ⟨p, X, N, hN⟩ K none') (instL X N as) vs := VRL.indep hv h1
 refine (h.2 K w vs hk (VRL.fold (P := ⟨p, X, N, hN⟩) hX hv' ho)).mono ?_
 rintro e w' ⟨v, K', q1, q2, q3⟩
 exact ⟨v, K', q1, q2.unfold.indep h2, q3⟩
theorem Pur.take {f : Nat} {as : List AV} {r : AV} (h : Pur ⟨p, X', N', hN'⟩ f (instL X N as) (inst X N r)) (hX : GX X) (ho : okt X r) (h1 : ntgL (instL X N as) = true) (h2 : ntg (inst X N r) = true) : Pur ⟨p, X, N, hN⟩ f as r := by
 refine ⟨⟨h.1.fn⟩, ?_⟩
 intro K w vs hk hv
 have hv' : All2 (VR ⟨p, X, N, hN⟩ K none') (instL X N as) vs := VRL.unfold (P := ⟨p, X, N, hN⟩) hv
 refine (h.2 K w vs hk (VRL.indep hv' h1)).mono ?_
 rintro e w' ⟨v, K', q1, q2, q3⟩
 have q2' : VR ⟨p, X, N, hN⟩ K' none' (inst X N r) v := q2.indep h2
 exact ⟨v, K', q1, VR.fold (P := ⟨p, X, N, hN⟩) hX q2' ho, q3⟩
end
end Go.Proofs.YtgaghaggiblabaaGreatDoor.Ev
namespace Go.Proofs.YtgaghaggiblabaaGreatDoor.Ev
open Go.RowKit
noncomputable def avle : Nat -> AV -> AV -> Bool := Nat.rec (fun _ _ => false) fun _ rec a b => match b with
 | .top => true
 | .int k m => (match a with | .int j n => and' (keq k j) (beqI m n) | _ => false)
 | .bool x => (match a with | .bool y => bqB x y | _ => false)
 | .str x => (match a with | .str y => beqL x y | _ => false)
 | .nilp => (match a with | .nilp => true | _ => false)
 | .pv x => (match a with | .pv y => rec y x | _ => false)
 | .sv l x => (match a with | .sv m y => and' (Bool.rec true y x) (avl rec m l) | _ => false)
 | .sn => (match a with | .sn => true | _ => false)
 | .agg t l => (match a with | .agg u m => and' (Nat.beq t u) (avl rec m l) | _ => false)
 | .tup l => (match a with | .tup m => avl rec m l | _ => false)
 | .fn f l m => (match a with | .fn g p q => and' (Nat.beq f g) (and' (avl rec p l) (avl rec q m)) | _ => false)
 | .nilf => (match a with | .nilf => true | _ => false)
 | .nilm => (match a with | .nilm => true | _ => false)
 | .ob i t => (match a with | .ob j u => and' (Nat.beq i j) (Nat.beq t u) | _ => false)
 | .cn i => (match a with | .cn j => Nat.beq i j | _ => false)
 | _ => false
theorem avl_len {rec : AV -> AV -> Bool} : ∀ {l m : List AV}, avl rec l m = true -> l.length = m.length
 | [], m, e => by
  cases m with
  | nil => rfl
  | cons b m => cases e
 | a :: l, m, e => by
  cases m with
  | nil => cases e
  | cons b m => simp [avl_len (l := l) (m := m) (and'_ok e).2]
section
variable {P : PX} {K : Kap}
def Le1 (P : PX) (K : Kap) (rec : AV -> AV -> Bool) : Prop := ∀ (ρ : Rho) (a b : AV) (l : Lay) (vs : List Value), rec a b = true -> b ≠ .top -> R P K ρ [a] [l] vs -> R P K ρ [b] [l] vs
theorem avl_R {rec : AV -> AV -> Bool} (h : Le1 P K rec) (ht : ∀ a, rec a .top = true -> False) {ρ : Rho} : ∀ {as bs : List AV} {ls : List Lay} {vs : List Value}, avl rec as bs = true -> R P K ρ as ls vs -> R P K ρ bs ls vs
 | [], bs, ls, vs, e, hR => by
  cases bs with
  | nil => exact hR
  | cons b bs => cases e
 | a :: as, bs, ls, vs, e, hR => by
  cases bs with
  | nil => cases e
  | cons b bs =>
   obtain ⟨e1, e2⟩ := and'_ok e
   cases ls with
   | nil => have := hR.len; simp at this
   | cons l ls =>
    obtain ⟨c, d, rfl, h1, h2⟩ := hR.uncons
    exact (h _ _ _ _ _ e1 (fun hb => by subst hb; exact ht a e1) h1).cons (avl_R h ht e2 h2)
end
noncomputable def avlf : Nat -> AV -> AV -> Bool := Nat.rec (fun _ _ => false) fun _ rec a b => match b with
 | .int k m => (match a with | .int j n => and' (keq k j) (beqI m n) | _ => false)
 | .bool x => (match a with | .bool y => bqB x y | _ => false)
 | .str x => (match a with | .str y => beqL x y | _ => false)
 | .nilp => (match a with | .nilp => true | _ => false)
 | .pv x => (match a with | .pv y => rec y x | _ => false)
 | .sv l x => (match a with | .sv m y => and' (Bool.rec true y x) (avl rec m l) | _ => false)
 | .sn => (match a with | .sn => true | _ => false)
 | .agg t l => (match a with | .agg u m => and' (Nat.beq t u) (avl rec m l) | _ => false)
 | .nilf => (match a with | .nilf => true | _ => false)
 | .nilm => (match a with | .nilm => true | _ => false)
 | .ob i t => (match a with | .ob j u => and' (Nat.beq i j) (Nat.beq t u) | _ => false)
 | .cn i => (match a with | .cn j => Nat.beq i j | _ => false)
 | _ => false
theorem avlf_top : ∀ (n : Nat) (a : AV), avlf n a .top = true -> False
 | 0, _, h => by cases h
 | n + 1, _, h => by cases h
theorem avlf_R {P : PX} {K : Kap} : ∀ n, Le1 P K (avlf n)
 | 0 => fun _ _ _ _ _ h => by cases h
 | n + 1 => by
  intro ρ a b l vs h _ hR
  have ih := avlf_R (P := P) (K := K) n
  have it := avlf_top n
  cases b <;> first | (cases h; done) | skip
  ·cases a <;> first | (cases h; done) | skip
   obtain ⟨h1, h2⟩ := and'_ok h
   rw [keq_ok h1]
   rw [beqI_eq, beq_iff_eq] at h2
   rw [h2]
   exact hR
  ·cases a <;> first | (cases h; done) | skip
   rw [beqB_ok h]; exact hR
  ·cases a <;> first | (cases h; done) | skip
   rw [beqL_ok h]; exact hR
  ·cases a <;> first | (cases h; done) | exact hR
  ·cases a <;> first | (cases h; done) | skip
   rename_i x y
   cases hR with
   | pv h1 h2 h3 =>
    cases h3
    exact .pv h1 (ih _ _ _ _ _ h (fun e => by subst e; exact it _ h) h2) .nil
  ·cases a <;> first | (cases h; done) | skip
   obtain ⟨h1, h2⟩ := and'_ok h
   rename_i l1 x m y
   have hl := avl_len h2
   cases hR with
   | sv g1 g2 g3 g4 g5 =>
    cases g5
    have g2' := avl_R ih it h2 g2
    rw [hl] at g2' g3 g4 ⊢
    refine .sv g1 g2' g3 (fun e => g4 ?_) .nil
    subst e
    exact h1
  ·cases a <;> first | (cases h; done) | exact hR
  ·cases a <;> first | (cases h; done) | skip
   obtain ⟨h1, h2⟩ := and'_ok h
   have := beq_true.1 h1
   subst this
   cases hR with
   | agg g1 g2 g3 => exact .agg g1 (avl_R ih it h2 g2) g3
  ·cases a <;> first | (cases h; done) | exact hR
  ·cases a <;> first | (cases h; done) | exact hR
  ·cases a <;> first | (cases h; done) | skip
   obtain ⟨h1, h2⟩ := and'_ok h
   rw [beq_true.1 h1, beq_true.1 h2]
   exact hR
  ·cases a <;> first | (cases h; done) | skip
   rw [beq_true.1 h]
   exact hR
noncomputable def exl (a b : AV) : Bool := match b with
 | .tup l => (match a with | .tup m => avl (avlf 60) m l | _ => false)
 | b => avlf 60 a b
theorem exl_V1 {P : PX} {K : Kap} {ρ : Rho} {a b : AV} {v : Value} (h : avlf 60 a b = true) (hv : V1 P K ρ a v) : V1 P K ρ b v := by
 rcases hv with rfl | ⟨l, c, hR, e⟩
 ·cases b <;> cases h
 ·exact .inr ⟨l, c, avlf_R 60 _ _ _ _ _ h (fun hb => by subst hb; exact avlf_top _ _ h) hR, e⟩
theorem exl_V1L {P : PX} {K : Kap} {ρ : Rho} : ∀ {as bs : List AV} {vs : List Value}, avl (avlf 60) as bs = true -> All2 (V1 P K ρ) as vs -> All2 (V1 P K ρ) bs vs
 | [], bs, _, e, h => by
  cases bs with
  | nil => exact h
  | cons b bs => cases e
 | a :: as, bs, _, e, h => by
  cases bs with
  | nil => cases e
  | cons b bs =>
   obtain ⟨e1, e2⟩ := and'_ok e
   cases h with
   | cons h1 h2 => exact .cons (exl_V1 e1 h1) (exl_V1L e2 h2)
theorem exl_VR {P : PX} {K : Kap} {ρ : Rho} {a b : AV} {v : Value} (h : exl a b = true) (hv : VR P K ρ a v) : VR P K ρ b v := by
 by_cases hb : ∃ l, b = .tup l
 ·obtain ⟨l, rfl⟩ := hb
  cases a <;> first | (cases h; done) | skip
  rename_i m
  rcases hv with (hv | ⟨ly, c, hR, _⟩) | ⟨l', vs, e, e', h'⟩
  ·cases hv
  ·cases hR
  ·cases e
   exact .inr ⟨l, vs, rfl, e', exl_V1L h h'⟩
 ·have h' : avlf 60 a b = true := by
   cases b <;> first | exact h | exact absurd ⟨_, rfl⟩ hb
  rcases hv with hv | ⟨l, vs, rfl, _, _⟩
  ·exact .inl (exl_V1 h' hv)
  ·cases b <;> cases h'
theorem Pur.le {P : PX} {f : Nat} {as : List AV} {r r' : AV} (h : Pur P f as r) (he : exl r r' = true) : Pur P f as r' := by
 refine ⟨h.1, fun K w vs hk hv => (h.2 K w vs hk hv).mono ?_⟩
 rintro e w' ⟨v, K', q1, q2, q3⟩
 exact ⟨v, K', q1, exl_VR he q2, q3⟩
noncomputable def okr (o : Out) (r : AV) : Bool := match o with | some q => and' (Nat.beq q.2.1 0) (and' (match q.2.2 with | [] => true | _ => false) (exl q.1 r)) | none => false
theorem okr_ok {o : Out} {r : AV} (h : okr o r = true) : ∃ a, o = some (a, 0, []) /\ exl a r = true := by
 unfold okr at h
 split at h
 ·rename_i q
  obtain ⟨a, n, H⟩ := q
  obtain ⟨h1, h2⟩ := and'_ok h
  obtain ⟨h2, h3⟩ := and'_ok h2
  have := beq_true.1 h1
  cases H with
  | nil => exact ⟨a, by rw [show n = 0 from this], h3⟩
  | cons x H => cases h2
 ·cases h
end Go.Proofs.YtgaghaggiblabaaGreatDoor.Ev
