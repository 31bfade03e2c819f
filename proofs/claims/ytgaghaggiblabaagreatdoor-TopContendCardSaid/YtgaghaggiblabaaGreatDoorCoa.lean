/- The states of the receives, as values with tags. No condition. -/
import Derived.Test.YtgaghaggiblabaaGreatDoorRck
import Derived.Test.YtgaghaggiblabaaGreatDoorSym
set_option linter.all false
namespace Go.Proofs.YtgaghaggiblabaaGreatDoor.Ev.T
open Go
def lowN (live c : Nat) : Nat := match live with | 1 => 0 | 2 => if c = 0 then 0 else 32768 | _ => if c = 0 then 0 else if c = 1 then 21845 else 43690
def highN (live c : Nat) : Nat := if c + 1 = live then 65535 else lowN live (c + 1) - 1
def routeN (id : Nat) : Nat := match id with | 1 => 47383 | 2 => 47226 | 3 => 47305 | 4 => 43356 | 5 => 43939 | _ => 44598
def idsN (live n c : Nat) : List Nat := ((List.range n).map (· + 1)).filter fun id => Nat.ble (lowN live c) (routeN id) && Nat.ble (routeN id) (highN live c) && Nat.blt c live
noncomputable def msg (id gen cnt : Nat) : AV := .agg 206 [i id, i (routeN id), i 0, i gen, i cnt, i 0, .str [109]]
noncomputable def msg0 : AV := .agg 206 [i 0, i 0, i 0, i 0, i 0, i 0, .str []]
noncomputable def lease (id : Nat) : AV := .agg 349 [msg id 1 1, i 50]
noncomputable def due (id : Nat) : AV := .agg 441 [i 50, i id]
noncomputable def shardA (live n c j : Nat) : AV :=
 let l := idsN live n c
 let r := l.drop j
 .agg 124 [.bool (Nat.blt c live), i (if c < live then lowN live c else 0), i (if c < live then highN live c else 0),
  .agg 118 [.sv (r.map (fun id => msg id 0 0) ++ List.replicate (6 - r.length) msg0) false, i 0, i r.length],
  .agg 122 [sln ((l.take j).map lease), sln ((l.take j).map due)]]
def mN (live n c : Nat) : Nat := (idsN live n c).length
noncomputable def stripeA (live n c v o : Nat) : AV := .agg 135 [i (2 * mN live n c + 2 * v + o : Nat), i 0, i (mN live n c - v : Nat), i (min v (mN live n c) : Nat)]
noncomputable def dirA (live : Nat) : AV := .agg 37 [i 1, .sv ((List.range live).map fun c => .agg 128 [i (lowN live c), i (highN live c), i c]) false, .sv [i (-1), i (-1), i (-1)] false]
noncomputable def setupA (live : Nat) : AV := .agg 27 [i 3, i live, i 6, i 2, i 1, i 0, i 1, i 0]
noncomputable def deadA : AV := .agg 34 [i 0, .agg 32 [i 2, .sn]]
noncomputable def walkA (live c k : Nat) : AV := .agg 72 [i (lowN live c), i (((List.range k).map fun d => let e := (c + live - 1 - d) % live; highN live e + 1 - lowN live e).sum : Nat)]
noncomputable def arP (sl st : List AV) (dir : AV) : AV := .agg 39 [.sv sl false, .sv st false, .ob 6 35, dir, i 0, i 0, .ob 8 0]
noncomputable def slP (c : Nat) (a : AV) : List AV := [.ob 0 134, .ob 1 134, .ob 2 134].set c a
noncomputable def stP (c : Nat) (a : AV) : List AV := [.ob 3 136, .ob 4 136, .ob 5 136].set c a
noncomputable def ar0 : AV := arP [.ob 0 134, .ob 1 134, .ob 2 134] [.ob 3 136, .ob 4 136, .ob 5 136] (.ob 7 38)
noncomputable def stpP : AV := .agg 27 [i 3, .ob 41 0, i 6, i 2, i 1, i 0, i 1, i 0]
noncomputable def invP (h : AV) : AV := .agg 53 [i 2, h, i 1, i 50, .ob 12 0, .ob 13 0, .ob 14 0, .ob 15 0]
noncomputable def tkP (h : AV) (pc : Int) (sec dir walk slot : AV) : AV := .agg 76 [.cn 1, invP h, .ob 10 0, .bool false, .ob 16 0, i pc, i 0, .sn, stpP, sec, dir, walk, slot, .ob 23 0, .ob 24 75, .ob 25 0, .ob 26 0, .ob 27 0]
noncomputable def lkP (c : Nat) (ph hv : Int) : AV := .agg 62 [.sv [i c] false, i ph, i hv, i 0, i 0]
noncomputable def snP (k : Int) (stamp : AV) : AV := .agg 64 [i k, i 0, i 0, stamp]
noncomputable def oh : AV := .ob 11 0
noncomputable def oo : AV := .ob 34 69
noncomputable def od : AV := .ob 20 38
noncomputable def out0 (s : AV) : AV := .agg 68 [.sv [s] false, .ob 32 33, .sn, .sn, .sn]
noncomputable def asok (aa : List AV) : Bool := match fzl (fz 0 [] 60 true) aa some with | some l => avl (aveq 60) l aa | none => false
noncomputable def rn (mem : List Fact) (f : Nat) (aa : List AV) (r : AV) : Bool := and' (asok aa) (okr (run tab2 (memOf mem) 300 f aa 0 0 []) r)
noncomputable def exP (live n c j : Nat) : Fact := ⟨211, [shardA live n c j, i 0, i 0, i 1], .tup [shardA live n c j, .sn, i 0]⟩
noncomputable def tkPc (live n c j : Nat) : Fact := ⟨319, [shardA live n c j, i 1, i 0, i 50, i 0, i 1], match (idsN live n c).drop j with | [] => .tup [shardA live n c j, .sn, i 0] | id :: _ => .tup [shardA live n c (j + 1), .sv [lease id] false, i 0]⟩
noncomputable def enP (live n c v : Nat) : Fact := ⟨341, [stripeA live n c v 1, shardA live n c (min (v + 1) (mN live n c)), i 0, i 1], .tup [stripeA live n c (v + 1) 0, i 0]⟩
noncomputable def rnF (q : Fact) : Bool := match q with | ⟨f, aa, r⟩ => rn [] f aa r
noncomputable def allE (live n : Nat) : Bool := (List.range live).all fun c => (List.range (mN live n c + 1)).all fun j => and' (rnF (exP live n c j)) (rnF (tkPc live n c j))
noncomputable def allN (live n : Nat) : Bool := (List.range live).all fun c => (List.range n).all fun v => rnF (enP live n c v)
noncomputable def step (a t : AV) : Out := run tab2 (fun _ _ => none) 300 22 [a, t, .cn 100] 0 0 []
end Go.Proofs.YtgaghaggiblabaaGreatDoor.Ev.T
