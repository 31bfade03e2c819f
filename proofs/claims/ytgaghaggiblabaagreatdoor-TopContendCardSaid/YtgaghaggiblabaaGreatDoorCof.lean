/- Invoke of a receive, and Bound. No condition. -/
import Derived.Test.YtgaghaggiblabaaGreatDoorCoe
import Derived.Test.YtgaghaggiblabaaGreatDoorCob
set_option linter.all false
namespace Go.Proofs.YtgaghaggiblabaaGreatDoor.Ev.T
open Go Go.RowKit
noncomputable def tkRA (live num h : Nat) (invoked : AV) : AV := .agg 76 [i num, invRA h, invoked, .bool false, i 0, i 0, i 0, .sn, setupA live, secZ, y37, .agg 72 [i 0, i 0], i 0, i 0, .agg 74 [i 0, i 0, i 0, i 0], i 0, .sn, .sn]
noncomputable def tksI (n r : Nat) : List AV := (List.range (n + r)).map fun j => let b := 1000 + 100 * j; shP b (cmp b 0) (.bool (Nat.blt j n)) (cmp b 7)
noncomputable def wI (live n : Nat) (tasks : List AV) : AV := wP (setupA live) (.ob 60 40) tasks (.ob 65 0) (i (stepsN live n)) (.ob 67 0)
noncomputable def cInvR (live n r h : Nat) : Bool := rn [] 8 [wI live n (tksI n r), invRA h] (.tup [wI live n (tksI n r ++ [tkRA live (n + r + 1) h (i (stepsN live n))]), i (n + r + 1 : Nat), i 0])
def boundN (m : Nat) : Nat := m * (m * (3 + 2 * m + 2) * (4 * m + 32) + 4 * m + 4 * m + 24 + 16)
noncomputable def shB (b : Nat) (d : Bool) : AV := match d with
 | true => shP b (cmp b 0) (.bool true) (cmp b 7)
 | false => .agg 76 [cmp b 0, .agg 53 [i 2, cmp b 81, i 1, i 50, cmp b 82, cmp b 83, cmp b 84, cmp b 85], cmp b 2, .bool false, cmp b 4, cmp b 5, i 0, cmp b 7, cmp b 8, cmp b 9, cmp b 10, cmp b 11, cmp b 12, cmp b 13, cmp b 14, cmp b 15, cmp b 16, cmp b 17]
noncomputable def wB (n : Nat) (dl : List Bool) : AV := wP (.ob 62 28) ar0 ((List.range (n + dl.length)).map fun j => shB (1000 + 100 * j) (dnB n dl j)) (.ob 65 0) (.ob 66 0) (.ob 67 0)
noncomputable def cBound (n : Nat) (dl : List Bool) : Bool := rn [] 19 [wB n dl] (i (boundN (openL n dl).length : Nat))
noncomputable def allInvR (live n : Nat) : Bool := (List.range n).all fun r => (List.range 3).all fun h => cInvR live n r h
noncomputable def allBound (n : Nat) : Bool := (bools n).all fun dl => cBound n dl
end Go.Proofs.YtgaghaggiblabaaGreatDoor.Ev.T
