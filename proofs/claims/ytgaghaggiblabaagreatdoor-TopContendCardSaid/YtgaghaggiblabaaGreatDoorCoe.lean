/- The worlds before the receives. No condition. -/
import Derived.Test.YtgaghaggiblabaaGreatDoorCod
set_option linter.all false
namespace Go.Proofs.YtgaghaggiblabaaGreatDoor.Ev.T
open Go Go.RowKit
open Mach (S up nxt)
def s00 : S := ⟨fun _ => .start 0, fun _ => 0, fun _ => 0, fun _ => 0⟩
noncomputable def invSA : AV := .agg 53 [i 1, i 0, i 0, i 0, i 0, i 0, .sv [.str [109]] false, .sn]
noncomputable def invSB : AV := .agg 53 [i 1, i 0, i 0, i 0, i 0, i 0, .sv [.str [109]] true, .sn]
noncomputable def tkSA (live j : Nat) (done : Bool) (ended entry : Nat) (res : AV) : AV := .agg 76 [i (j + 1 : Nat), invSA, i 0, .bool done, i ended, i 0, i entry, res, setupA live, secZ, y37, .agg 72 [i 0, i 0], i 0, i 0, .agg 74 [i 0, i 0, i 0, i 0], i 0, .sn, .sn]
noncomputable def wsA (live j : Nat) : AV := .agg 44 [setupA live, arenaA live 0 s00, sln ((List.range j).map fun k => tkSA live k false 0 0 .sn), .sn, i 0, .sn]
def stepsN (live n : Nat) : Nat := match live, n with
 | 1, 1 => 13
 | 1, 2 => 35
 | 1, 3 => 66
 | 1, 4 => 106
 | 1, 5 => 155
 | 1, 6 => 213
 | 2, 1 => 13
 | 2, 2 => 35
 | 2, 3 => 66
 | 2, 4 => 106
 | 2, 5 => 155
 | 2, 6 => 213
 | 3, 1 => 13
 | 3, 2 => 35
 | 3, 3 => 66
 | 3, 4 => 85
 | 3, 5 => 125
 | 3, 6 => 174
 | _, _ => 0
def endedN (live n : Nat) : List Nat := match live, n with
 | 1, 1 => [13]
 | 1, 2 => [25, 35]
 | 1, 3 => [37, 56, 66]
 | 1, 4 => [49, 77, 96, 106]
 | 1, 5 => [61, 98, 126, 145, 155]
 | 1, 6 => [73, 119, 156, 184, 203, 213]
 | 2, 1 => [13]
 | 2, 2 => [25, 35]
 | 2, 3 => [37, 56, 66]
 | 2, 4 => [49, 77, 96, 106]
 | 2, 5 => [61, 98, 126, 145, 155]
 | 2, 6 => [73, 119, 156, 184, 203, 213]
 | 3, 1 => [13]
 | 3, 2 => [25, 35]
 | 3, 3 => [37, 56, 66]
 | 3, 4 => [49, 75, 85, 70]
 | 3, 5 => [61, 96, 115, 88, 125]
 | 3, 6 => [73, 117, 145, 106, 164, 174]
 | _, _ => []
def evN (live n : Nat) : List (Nat × Nat) := match live, n with
 | 1, 1 => [(9, 1)]
 | 1, 2 => [(17, 1), (31, 2)]
 | 1, 3 => [(25, 1), (48, 2), (62, 3)]
 | 1, 4 => [(33, 1), (65, 2), (88, 3), (102, 4)]
 | 1, 5 => [(41, 1), (82, 2), (114, 3), (137, 4), (151, 5)]
 | 1, 6 => [(49, 1), (99, 2), (140, 3), (172, 4), (195, 5), (209, 6)]
 | 2, 1 => [(9, 1)]
 | 2, 2 => [(17, 1), (31, 2)]
 | 2, 3 => [(25, 1), (48, 2), (62, 3)]
 | 2, 4 => [(33, 1), (65, 2), (88, 3), (102, 4)]
 | 2, 5 => [(41, 1), (82, 2), (114, 3), (137, 4), (151, 5)]
 | 2, 6 => [(49, 1), (99, 2), (140, 3), (172, 4), (195, 5), (209, 6)]
 | 3, 1 => [(9, 1)]
 | 3, 2 => [(17, 1), (31, 2)]
 | 3, 3 => [(25, 1), (48, 2), (62, 3)]
 | 3, 4 => [(33, 1), (58, 4), (65, 2), (81, 3)]
 | 3, 5 => [(41, 1), (72, 4), (82, 2), (107, 3), (121, 5)]
 | 3, 6 => [(49, 1), (86, 4), (99, 2), (133, 3), (156, 5), (170, 6)]
 | _, _ => []
noncomputable def sendsA (live n : Nat) : List AV := (List.range n).map fun k => tkSA live k true ((endedN live n).getD k 0) 1 (.sv [.agg 78 [i 0, i (k + 1 : Nat), .sn, .sn, i 0, i 0, i 0]] false)
noncomputable def log1A (live n : Nat) : List AV := (evN live n).map fun p => .agg 98 [i p.1, i p.2, i 0, i 2, i 0, i 0, i 0, .sv [.agg 260 [i p.2, i 0, i (routeN p.2), i 0]] false, i 0, i 0]
noncomputable def w1A (live n : Nat) : AV := .agg 44 [setupA live, arenaA live n s00, .sv (sendsA live n) false, .sv (log1A live n) false, i (stepsN live n), .sn]
noncomputable def cNew (live : Nat) : Bool := rn [] 6 [setupA live] (.tup [wsA live 0, i 0])
noncomputable def cInvS (live j : Nat) : Bool := rn [] 8 [wsA live j, invSB] (.tup [wsA live (j + 1), i (j + 1 : Nat), i 0])
noncomputable def cPar (id c : Nat) : Bool := rn [] 14 [tokA id c] (.tup [.agg 74 [i id, i 1, i (routeN id), i c], i 0])
noncomputable def all7 : Bool := (List.range 3).all fun l => and' (cNew (l + 1)) ((List.range 6).all fun j => cInvS (l + 1) j)
noncomputable def all8 : Bool := (List.range 6).all fun k => (List.range 3).all fun c => cPar (k + 1) c
end Go.Proofs.YtgaghaggiblabaaGreatDoor.Ev.T
