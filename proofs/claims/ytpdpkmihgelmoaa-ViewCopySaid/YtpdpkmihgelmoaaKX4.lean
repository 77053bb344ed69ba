/-
  Texts of mine that belong together (packed by pack.py), for every input: GVe, QVj, GVy, QVy, GVz, QVz, GVf, QVk, GVg, QVl, QVm, GVh, QVn, GVi, QVp, TyV, TyA, GWq, QWq, TyX, QVq, QVs, QVt, QVu, GVk, QVv, QWr, TyC, GWc, QWc.
-/
import Derived.Test.YtpdpkmihgelmoaaKX2
import Derived.Test.YtpdpkmihgelmoaaKX3
import Derived.KernelRfl
set_option linter.unusedVariables false
set_option linter.unusedSimpArgs false
namespace Go.Pl
open Go.RowKit
set_option maxRecDepth 100000
def ic_swind : IC := (.seq (.reg [⟨(some 3), (.box 3 (.t 0)), 0, none⟩, ⟨(some 6), (.alloc (.agg [(.int .i64 0), (.sl 0 true []), (.sl 0 true [])])), 1, none⟩, ⟨(some 7), (.mv (.c (.int .i64 0))), 2, none⟩] none) (.seq (.seq (.reg [⟨(some 13), (.load true [(.int .i64), (.sl 1), (.sl 1)] (.t 3)), 0, none⟩, ⟨(some 14), (.call (.c (.fn 76)) [(.t 13)]), 0, none⟩, ⟨(some 15), (.un .not (.t 14)), 2, none⟩] none) (.cond (.t 15) (.seq (.reg [⟨(some 16), (.build [(.int .i64 0), (.sl 0 true []), (.sl 0 true [])] []), 0, none⟩, ⟨none, (.store 3 (.t 6) (.t 16)), 0, none⟩, ⟨(some 7), (.mv (.c (.int .i64 1))), 0, none⟩] none) .ret) .skip)) (.seq (.reg [⟨(some 17), (.faddr 1 (.t 3)), 0, none⟩, ⟨(some 18), (.load false [(.sl 1)] (.t 17)), 0, none⟩, ⟨(some 19), (.len 1 (.t 18)), 0, none⟩, ⟨(some 20), (.mv (.t 1)), 0, none⟩, ⟨(some 21), (.bin .num .sub (.t 19) (.t 20)), 0, none⟩, ⟨(some 8), (.mv (.t 21)), 0, none⟩] none) (.seq (.seq (.reg [⟨(some 22), (.mv (.t 8)), 0, none⟩, ⟨(some 23), (.bin .num .lss (.t 22) (.c (.int .i64 0))), 0, none⟩] none) (.cond (.t 23) (.seq (.reg [⟨(some 24), (.build [(.int .i64 0), (.sl 0 true []), (.sl 0 true [])] []), 0, none⟩, ⟨none, (.store 3 (.t 6) (.t 24)), 0, none⟩, ⟨(some 7), (.mv (.c (.int .i64 13))), 0, none⟩] none) .ret) .skip)) (.seq (.reg [⟨(some 25), (.faddr 0 (.t 3)), 0, none⟩, ⟨(some 26), (.load false [(.int .i64)] (.t 25)), 0, none⟩, ⟨(some 27), (.faddr 1 (.t 3)), 0, none⟩, ⟨(some 28), (.load false [(.sl 1)] (.t 27)), 0, none⟩, ⟨(some 29), (.mv (.t 8)), 0, none⟩, ⟨(some 30), (.slc 1 (.t 28) none (some (.t 29)) none), 0, none⟩, ⟨(some 31), (.call (.c (.fn 74)) [(.t 30)]), 0, none⟩, ⟨(some 32), (.faddr 2 (.t 3)), 2, none⟩, ⟨(some 33), (.load false [(.sl 1)] (.t 32)), 2, none⟩, ⟨(some 34), (.mv (.t 8)), 2, none⟩, ⟨(some 35), (.slc 1 (.t 33) none (some (.t 34)) none), 2, none⟩, ⟨(some 36), (.call (.c (.fn 74)) [(.t 35)]), 2, none⟩, ⟨(some 37), (.build [(.int .i64 0), (.sl 0 true []), (.sl 0 true [])] [(0, (1, (.t 26))), (1, (1, (.t 31))), (2, (1, (.t 36)))]), 4, none⟩, ⟨(some 9), (.alloc (.agg [(.int .i64 0), (.sl 0 true []), (.sl 0 true [])])), 4, none⟩, ⟨none, (.store 3 (.t 9) (.t 37)), 5, none⟩] (some [[], [0], [], [2], [], [3, 4, 2], [5, 3, 4, 2], [], [7], [], [8, 9, 7], [10, 6, 8, 9, 7, 5, 3, 4, 2], [1, 6, 11, 0, 5, 3, 4, 2, 10, 8, 9, 7], [], [13, 12, 11, 0, 1, 2, 3, 4, 5, 6, 7, 8, 9, 10]])) (.seq (.seq (.reg [⟨(some 38), (.mv (.t 2)), 0, none⟩, ⟨(some 39), (.faddr 1 (.t 3)), 0, none⟩, ⟨(some 40), (.load false [(.sl 1)] (.t 39)), 0, none⟩, ⟨(some 41), (.mv (.t 8)), 0, none⟩, ⟨(some 42), (.slc 1 (.t 40) (some (.t 41)) none none), 0, none⟩, ⟨(some 43), (.faddr 2 (.t 3)), 0, none⟩, ⟨(some 44), (.load false [(.sl 1)] (.t 43)), 0, none⟩, ⟨(some 45), (.mv (.t 8)), 0, none⟩, ⟨(some 46), (.slc 1 (.t 44) (some (.t 45)) none none), 0, none⟩, ⟨(some 47), (.call (.t 38) [(.t 9), (.t 42), (.t 46)]), 0, none⟩, ⟨(some 10), (.mv (.t 47)), 2, none⟩] (some [[], [], [1], [], [2, 3, 1], [], [5], [], [6, 7, 5], [0, 4, 8, 2, 3, 1, 6, 7, 5], [9, 0, 1, 2, 3, 4, 5, 6, 7, 8]])) (.seq (.reg [⟨(some 48), (.mv (.t 10)), 0, none⟩, ⟨(some 49), (.bin .num .neq (.t 48) (.c (.int .i64 0))), 0, none⟩] none) (.cond (.t 49) (.seq (.reg [⟨(some 50), (.build [(.int .i64 0), (.sl 0 true []), (.sl 0 true [])] []), 0, none⟩, ⟨(some 51), (.mv (.t 10)), 0, none⟩, ⟨none, (.store 3 (.t 6) (.t 50)), 0, none⟩, ⟨(some 7), (.mv (.t 51)), 0, none⟩] none) .ret) .skip))) (.seq (.seq (.reg [⟨(some 53), (.faddr 1 (.t 9)), 0, none⟩, ⟨(some 54), (.load false [(.sl 1)] (.t 53)), 0, none⟩, ⟨(some 55), (.call (.c (.fn 73)) [(.t 54)]), 0, none⟩, ⟨(some 52), (.mv (.t 55)), 2, none⟩, ⟨(some 56), (.extract (.t 52) 0), 2, none⟩, ⟨(some 57), (.extract (.t 52) 1), 2, none⟩, ⟨(some 11), (.mv (.t 56)), 2, none⟩, ⟨(some 12), (.mv (.t 57)), 2, none⟩] none) (.seq (.reg [⟨(some 58), (.mv (.t 12)), 0, none⟩, ⟨(some 59), (.bin .num .neq (.t 58) (.c (.int .i64 0))), 0, none⟩] none) (.cond (.t 59) (.seq (.reg [⟨(some 60), (.build [(.int .i64 0), (.sl 0 true []), (.sl 0 true [])] []), 0, none⟩, ⟨(some 61), (.mv (.t 12)), 0, none⟩, ⟨none, (.store 3 (.t 6) (.t 60)), 0, none⟩, ⟨(some 7), (.mv (.t 61)), 0, none⟩] none) .ret) .skip))) (.seq (.reg [⟨(some 62), (.load true [(.int .i64), (.sl 1), (.sl 1)] (.t 9)), 0, none⟩, ⟨none, (.store 3 (.t 6) (.t 62)), 0, none⟩, ⟨(some 7), (.mv (.c (.int .i64 0))), 0, none⟩] none) .ret))))))))
def rs_swind : List IRes := [(.cell true 3 6), (.tmp 7)]
abbrev nt_swind : Nat := 63
def T_swind : Tab := tab [(76, .pure pre_v1 val_formed), (74, .own pre_copyn val_copyo), (73, .pure pre_size val_size), (101, .own (pre1 1) (val1p windC))]
theorem swind_s {r : AV × List AObj × List AObj} (o : Int) (d s : List Int) (t u : Bool) (k : Int) (h : (pre_v1 [(.agg [(.int .i64 o), (.sl 1 t (nums d)), (.sl 1 u (nums s))])]) = true ∧ (if (!formB (PV.agg [PV.int .i64 o, PV.sl 1 t (nums d), PV.sl 1 u (nums s)]).vD (PV.agg [PV.int .i64 o, PV.sl 1 t (nums d), PV.sl 1 u (nums s)]).vS) = true then ((.pv (.tup [(.agg [(.int .i64 0), (.sl 0 true []), (.sl 0 true [])]), (.int .i64 1)])), ([(.box [(.pv (.int .i64 k))])], [])) = r else (if (decide (IntKind.i64.wrap ((↑(nums d).length : Int) - 1) < 0)) = true then ((.pv (.tup [(.agg [(.int .i64 0), (.sl 0 true []), (.sl 0 true [])]), (.int .i64 13)])), ([(.box [(.pv (.int .i64 k))])], [])) = r else ((true && decide (0 ≤ IntKind.i64.wrap ((↑(nums d).length : Int) - 1)) && ((nums d).isEmpty || 1 == 1) && decide (0 ≤ (IntKind.i64.wrap ((↑(nums d).length : Int) - 1)).toNat) && decide ((IntKind.i64.wrap ((↑(nums d).length : Int) - 1)).toNat ≤ (nums d).length)) = true ∧ (pre_copyn [(.pv (.sl 1 (t && decide ((IntKind.i64.wrap ((↑(nums d).length : Int) - 1)).toNat = (nums d).length)) (List.drop 0 (List.take (IntKind.i64.wrap ((↑(nums d).length : Int) - 1)).toNat (nums d)))))] []) = true ∧ (true && decide (0 ≤ IntKind.i64.wrap ((↑(nums d).length : Int) - 1)) && ((nums s).isEmpty || 1 == 1) && decide (0 ≤ (IntKind.i64.wrap ((↑(nums d).length : Int) - 1)).toNat) && decide ((IntKind.i64.wrap ((↑(nums d).length : Int) - 1)).toNat ≤ (nums s).length)) = true ∧ (pre_copyn [(.pv (.sl 1 (u && decide ((IntKind.i64.wrap ((↑(nums d).length : Int) - 1)).toNat = (nums s).length)) (List.drop 0 (List.take (IntKind.i64.wrap ((↑(nums d).length : Int) - 1)).toNat (nums s)))))] []) = true ∧ (decide (0 ≤ IntKind.i64.wrap ((↑(nums d).length : Int) - 1)) && true && ((nums d).isEmpty || 1 == 1) && decide ((IntKind.i64.wrap ((↑(nums d).length : Int) - 1)).toNat ≤ (nums d).length) && decide ((nums d).length ≤ (nums d).length)) = true ∧ (decide (0 ≤ IntKind.i64.wrap ((↑(nums d).length : Int) - 1)) && true && ((nums s).isEmpty || 1 == 1) && decide ((IntKind.i64.wrap ((↑(nums d).length : Int) - 1)).toNat ≤ (nums s).length) && decide ((nums s).length ≤ (nums s).length)) = true ∧ (pre1 1 [(.ptr 0 0), (.pv (.sl 1 (t && decide ((nums d).length = (nums d).length)) (List.drop (IntKind.i64.wrap ((↑(nums d).length : Int) - 1)).toNat (List.take (nums d).length (nums d))))), (.pv (.sl 1 (u && decide ((nums s).length = (nums s).length)) (List.drop (IntKind.i64.wrap ((↑(nums d).length : Int) - 1)).toNat (List.take (nums s).length (nums s))))), (.ptr 1 0)] [(.box [(.pv (.int .i64 o)), (.row 2 ((List.drop 0 (List.take (IntKind.i64.wrap ((↑(nums d).length : Int) - 1)).toNat (nums d))).length) 0 ((List.drop 0 (List.take (IntKind.i64.wrap ((↑(nums d).length : Int) - 1)).toNat (nums d))).length)), (.row 3 ((List.drop 0 (List.take (IntKind.i64.wrap ((↑(nums d).length : Int) - 1)).toNat (nums s))).length) 0 ((List.drop 0 (List.take (IntKind.i64.wrap ((↑(nums d).length : Int) - 1)).toNat (nums s))).length))]), (.box [(.pv (.int .i64 k))]), (.row false 3 1 (List.drop 0 (List.take (IntKind.i64.wrap ((↑(nums d).length : Int) - 1)).toNat (nums d)))), (.row false 3 1 (List.drop 0 (List.take (IntKind.i64.wrap ((↑(nums d).length : Int) - 1)).toNat (nums s))))]) = true ∧ (if (errC windC (caOf o (List.drop 0 (List.take (IntKind.i64.wrap ((↑(nums d).length : Int) - 1)).toNat (nums d))) (List.drop 0 (List.take (IntKind.i64.wrap ((↑(nums d).length : Int) - 1)).toNat (nums s))) (List.drop (IntKind.i64.wrap ((↑(nums d).length : Int) - 1)).toNat (List.take (nums d).length (nums d))) (List.drop (IntKind.i64.wrap ((↑(nums d).length : Int) - 1)).toNat (List.take (nums s).length (nums s))) k) != 0) = true then ((.pv (.tup [(.agg [(.int .i64 0), (.sl 0 true []), (.sl 0 true [])]), (.int .i64 (errC windC (caOf o (List.drop 0 (List.take (IntKind.i64.wrap ((↑(nums d).length : Int) - 1)).toNat (nums d))) (List.drop 0 (List.take (IntKind.i64.wrap ((↑(nums d).length : Int) - 1)).toNat (nums s))) (List.drop (IntKind.i64.wrap ((↑(nums d).length : Int) - 1)).toNat (List.take (nums d).length (nums d))) (List.drop (IntKind.i64.wrap ((↑(nums d).length : Int) - 1)).toNat (List.take (nums s).length (nums s))) k)))])), ([(.box [(.pv (.int .i64 k))])], [])) = r else (((addL (List.drop 0 (List.take (IntKind.i64.wrap ((↑(nums d).length : Int) - 1)).toNat (nums d))) (dimC windC (caOf o (List.drop 0 (List.take (IntKind.i64.wrap ((↑(nums d).length : Int) - 1)).toNat (nums d))) (List.drop 0 (List.take (IntKind.i64.wrap ((↑(nums d).length : Int) - 1)).toNat (nums s))) (List.drop (IntKind.i64.wrap ((↑(nums d).length : Int) - 1)).toNat (List.take (nums d).length (nums d))) (List.drop (IntKind.i64.wrap ((↑(nums d).length : Int) - 1)).toNat (List.take (nums s).length (nums s))) k))).length == (addL (List.drop 0 (List.take (IntKind.i64.wrap ((↑(nums d).length : Int) - 1)).toNat (nums d))) (dimC windC (caOf o (List.drop 0 (List.take (IntKind.i64.wrap ((↑(nums d).length : Int) - 1)).toNat (nums d))) (List.drop 0 (List.take (IntKind.i64.wrap ((↑(nums d).length : Int) - 1)).toNat (nums s))) (List.drop (IntKind.i64.wrap ((↑(nums d).length : Int) - 1)).toNat (List.take (nums d).length (nums d))) (List.drop (IntKind.i64.wrap ((↑(nums d).length : Int) - 1)).toNat (List.take (nums s).length (nums s))) k))).length) = true ∧ (pre_size [(.sl 1 false (List.drop 0 (List.take (addL (List.drop 0 (List.take (IntKind.i64.wrap ((↑(nums d).length : Int) - 1)).toNat (nums d))) (dimC windC (caOf o (List.drop 0 (List.take (IntKind.i64.wrap ((↑(nums d).length : Int) - 1)).toNat (nums d))) (List.drop 0 (List.take (IntKind.i64.wrap ((↑(nums d).length : Int) - 1)).toNat (nums s))) (List.drop (IntKind.i64.wrap ((↑(nums d).length : Int) - 1)).toNat (List.take (nums d).length (nums d))) (List.drop (IntKind.i64.wrap ((↑(nums d).length : Int) - 1)).toNat (List.take (nums s).length (nums s))) k))).length (addL (List.drop 0 (List.take (IntKind.i64.wrap ((↑(nums d).length : Int) - 1)).toNat (nums d))) (dimC windC (caOf o (List.drop 0 (List.take (IntKind.i64.wrap ((↑(nums d).length : Int) - 1)).toNat (nums d))) (List.drop 0 (List.take (IntKind.i64.wrap ((↑(nums d).length : Int) - 1)).toNat (nums s))) (List.drop (IntKind.i64.wrap ((↑(nums d).length : Int) - 1)).toNat (List.take (nums d).length (nums d))) (List.drop (IntKind.i64.wrap ((↑(nums d).length : Int) - 1)).toNat (List.take (nums s).length (nums s))) k))))))]) = true ∧ (if ((sizeB (List.map PV.asInt (List.drop 0 (List.take (addL (List.drop 0 (List.take (IntKind.i64.wrap ((↑(nums d).length : Int) - 1)).toNat (nums d))) (dimC windC (caOf o (List.drop 0 (List.take (IntKind.i64.wrap ((↑(nums d).length : Int) - 1)).toNat (nums d))) (List.drop 0 (List.take (IntKind.i64.wrap ((↑(nums d).length : Int) - 1)).toNat (nums s))) (List.drop (IntKind.i64.wrap ((↑(nums d).length : Int) - 1)).toNat (List.take (nums d).length (nums d))) (List.drop (IntKind.i64.wrap ((↑(nums d).length : Int) - 1)).toNat (List.take (nums s).length (nums s))) k))).length (addL (List.drop 0 (List.take (IntKind.i64.wrap ((↑(nums d).length : Int) - 1)).toNat (nums d))) (dimC windC (caOf o (List.drop 0 (List.take (IntKind.i64.wrap ((↑(nums d).length : Int) - 1)).toNat (nums d))) (List.drop 0 (List.take (IntKind.i64.wrap ((↑(nums d).length : Int) - 1)).toNat (nums s))) (List.drop (IntKind.i64.wrap ((↑(nums d).length : Int) - 1)).toNat (List.take (nums d).length (nums d))) (List.drop (IntKind.i64.wrap ((↑(nums d).length : Int) - 1)).toNat (List.take (nums s).length (nums s))) k))))))).snd != 0) = true then ((.pv (.tup [(.agg [(.int .i64 0), (.sl 0 true []), (.sl 0 true [])]), (.int .i64 ((sizeB (List.map PV.asInt (List.drop 0 (List.take (addL (List.drop 0 (List.take (IntKind.i64.wrap ((↑(nums d).length : Int) - 1)).toNat (nums d))) (dimC windC (caOf o (List.drop 0 (List.take (IntKind.i64.wrap ((↑(nums d).length : Int) - 1)).toNat (nums d))) (List.drop 0 (List.take (IntKind.i64.wrap ((↑(nums d).length : Int) - 1)).toNat (nums s))) (List.drop (IntKind.i64.wrap ((↑(nums d).length : Int) - 1)).toNat (List.take (nums d).length (nums d))) (List.drop (IntKind.i64.wrap ((↑(nums d).length : Int) - 1)).toNat (List.take (nums s).length (nums s))) k))).length (addL (List.drop 0 (List.take (IntKind.i64.wrap ((↑(nums d).length : Int) - 1)).toNat (nums d))) (dimC windC (caOf o (List.drop 0 (List.take (IntKind.i64.wrap ((↑(nums d).length : Int) - 1)).toNat (nums d))) (List.drop 0 (List.take (IntKind.i64.wrap ((↑(nums d).length : Int) - 1)).toNat (nums s))) (List.drop (IntKind.i64.wrap ((↑(nums d).length : Int) - 1)).toNat (List.take (nums d).length (nums d))) (List.drop (IntKind.i64.wrap ((↑(nums d).length : Int) - 1)).toNat (List.take (nums s).length (nums s))) k))))))).snd))])), ([(.box [(.pv (.int .i64 k))])], [])) = r else (((addL (List.drop 0 (List.take (IntKind.i64.wrap ((↑(nums d).length : Int) - 1)).toNat (nums d))) (dimC windC (caOf o (List.drop 0 (List.take (IntKind.i64.wrap ((↑(nums d).length : Int) - 1)).toNat (nums d))) (List.drop 0 (List.take (IntKind.i64.wrap ((↑(nums d).length : Int) - 1)).toNat (nums s))) (List.drop (IntKind.i64.wrap ((↑(nums d).length : Int) - 1)).toNat (List.take (nums d).length (nums d))) (List.drop (IntKind.i64.wrap ((↑(nums d).length : Int) - 1)).toNat (List.take (nums s).length (nums s))) k))).length == (addL (List.drop 0 (List.take (IntKind.i64.wrap ((↑(nums d).length : Int) - 1)).toNat (nums d))) (dimC windC (caOf o (List.drop 0 (List.take (IntKind.i64.wrap ((↑(nums d).length : Int) - 1)).toNat (nums d))) (List.drop 0 (List.take (IntKind.i64.wrap ((↑(nums d).length : Int) - 1)).toNat (nums s))) (List.drop (IntKind.i64.wrap ((↑(nums d).length : Int) - 1)).toNat (List.take (nums d).length (nums d))) (List.drop (IntKind.i64.wrap ((↑(nums d).length : Int) - 1)).toNat (List.take (nums s).length (nums s))) k))).length) = true ∧ ((addL (List.drop 0 (List.take (IntKind.i64.wrap ((↑(nums d).length : Int) - 1)).toNat (nums s))) (strC windC (caOf o (List.drop 0 (List.take (IntKind.i64.wrap ((↑(nums d).length : Int) - 1)).toNat (nums d))) (List.drop 0 (List.take (IntKind.i64.wrap ((↑(nums d).length : Int) - 1)).toNat (nums s))) (List.drop (IntKind.i64.wrap ((↑(nums d).length : Int) - 1)).toNat (List.take (nums d).length (nums d))) (List.drop (IntKind.i64.wrap ((↑(nums d).length : Int) - 1)).toNat (List.take (nums s).length (nums s))) k))).length == (addL (List.drop 0 (List.take (IntKind.i64.wrap ((↑(nums d).length : Int) - 1)).toNat (nums s))) (strC windC (caOf o (List.drop 0 (List.take (IntKind.i64.wrap ((↑(nums d).length : Int) - 1)).toNat (nums d))) (List.drop 0 (List.take (IntKind.i64.wrap ((↑(nums d).length : Int) - 1)).toNat (nums s))) (List.drop (IntKind.i64.wrap ((↑(nums d).length : Int) - 1)).toNat (List.take (nums d).length (nums d))) (List.drop (IntKind.i64.wrap ((↑(nums d).length : Int) - 1)).toNat (List.take (nums s).length (nums s))) k))).length) = true ∧ (((.pv (.tup [(.agg [(.int .i64 (offC windC (caOf o (List.drop 0 (List.take (IntKind.i64.wrap ((↑(nums d).length : Int) - 1)).toNat (nums d))) (List.drop 0 (List.take (IntKind.i64.wrap ((↑(nums d).length : Int) - 1)).toNat (nums s))) (List.drop (IntKind.i64.wrap ((↑(nums d).length : Int) - 1)).toNat (List.take (nums d).length (nums d))) (List.drop (IntKind.i64.wrap ((↑(nums d).length : Int) - 1)).toNat (List.take (nums s).length (nums s))) k))), (.sl 1 false (List.drop 0 (List.take (addL (List.drop 0 (List.take (IntKind.i64.wrap ((↑(nums d).length : Int) - 1)).toNat (nums d))) (dimC windC (caOf o (List.drop 0 (List.take (IntKind.i64.wrap ((↑(nums d).length : Int) - 1)).toNat (nums d))) (List.drop 0 (List.take (IntKind.i64.wrap ((↑(nums d).length : Int) - 1)).toNat (nums s))) (List.drop (IntKind.i64.wrap ((↑(nums d).length : Int) - 1)).toNat (List.take (nums d).length (nums d))) (List.drop (IntKind.i64.wrap ((↑(nums d).length : Int) - 1)).toNat (List.take (nums s).length (nums s))) k))).length (addL (List.drop 0 (List.take (IntKind.i64.wrap ((↑(nums d).length : Int) - 1)).toNat (nums d))) (dimC windC (caOf o (List.drop 0 (List.take (IntKind.i64.wrap ((↑(nums d).length : Int) - 1)).toNat (nums d))) (List.drop 0 (List.take (IntKind.i64.wrap ((↑(nums d).length : Int) - 1)).toNat (nums s))) (List.drop (IntKind.i64.wrap ((↑(nums d).length : Int) - 1)).toNat (List.take (nums d).length (nums d))) (List.drop (IntKind.i64.wrap ((↑(nums d).length : Int) - 1)).toNat (List.take (nums s).length (nums s))) k)))))), (.sl 1 false (List.drop 0 (List.take (addL (List.drop 0 (List.take (IntKind.i64.wrap ((↑(nums d).length : Int) - 1)).toNat (nums s))) (strC windC (caOf o (List.drop 0 (List.take (IntKind.i64.wrap ((↑(nums d).length : Int) - 1)).toNat (nums d))) (List.drop 0 (List.take (IntKind.i64.wrap ((↑(nums d).length : Int) - 1)).toNat (nums s))) (List.drop (IntKind.i64.wrap ((↑(nums d).length : Int) - 1)).toNat (List.take (nums d).length (nums d))) (List.drop (IntKind.i64.wrap ((↑(nums d).length : Int) - 1)).toNat (List.take (nums s).length (nums s))) k))).length (addL (List.drop 0 (List.take (IntKind.i64.wrap ((↑(nums d).length : Int) - 1)).toNat (nums s))) (strC windC (caOf o (List.drop 0 (List.take (IntKind.i64.wrap ((↑(nums d).length : Int) - 1)).toNat (nums d))) (List.drop 0 (List.take (IntKind.i64.wrap ((↑(nums d).length : Int) - 1)).toNat (nums s))) (List.drop (IntKind.i64.wrap ((↑(nums d).length : Int) - 1)).toNat (List.take (nums d).length (nums d))) (List.drop (IntKind.i64.wrap ((↑(nums d).length : Int) - 1)).toNat (List.take (nums s).length (nums s))) k))))))]), (.int .i64 0)])), ([(.box [(.pv (.int .i64 k))])], [])) = r))))))))) : Gets T_swind 1 (fun st => finF 1 st rs_swind = some r) ic_swind [] (st0O 63 [.pv (.agg [.int .i64 o, .sl 1 t (nums d), .sl 1 u (nums s)]), .pv (.int .i64 1), .fn 101 [] [.ptr 0 0]] [.box [.pv (.int .i64 k)]]) := Gets.wf (.req (.ask (.nil) (.lit (.lit (.ask (.nil) (.req (.req (.req (.req (.req (.req (.req (.lit (.ask (.nil) (.req (.req (.lit (.ask (.nil) (.req (.req (.nil))))))))))))))))))))) h (by kernel_rfl)
def ic_stran : IC := (.seq (.reg [⟨(some 3), (.box 3 (.t 0)), 0, none⟩, ⟨(some 6), (.alloc (.agg [(.int .i64 0), (.sl 0 true []), (.sl 0 true [])])), 1, none⟩, ⟨(some 7), (.mv (.c (.int .i64 0))), 2, none⟩] none) (.seq (.seq (.reg [⟨(some 13), (.load true [(.int .i64), (.sl 1), (.sl 1)] (.t 3)), 0, none⟩, ⟨(some 14), (.call (.c (.fn 76)) [(.t 13)]), 0, none⟩, ⟨(some 15), (.un .not (.t 14)), 2, none⟩] none) (.cond (.t 15) (.seq (.reg [⟨(some 16), (.build [(.int .i64 0), (.sl 0 true []), (.sl 0 true [])] []), 0, none⟩, ⟨none, (.store 3 (.t 6) (.t 16)), 0, none⟩, ⟨(some 7), (.mv (.c (.int .i64 1))), 0, none⟩] none) .ret) .skip)) (.seq (.reg [⟨(some 17), (.faddr 1 (.t 3)), 0, none⟩, ⟨(some 18), (.load false [(.sl 1)] (.t 17)), 0, none⟩, ⟨(some 19), (.len 1 (.t 18)), 0, none⟩, ⟨(some 20), (.mv (.t 1)), 0, none⟩, ⟨(some 21), (.bin .num .sub (.t 19) (.t 20)), 0, none⟩, ⟨(some 8), (.mv (.t 21)), 0, none⟩] none) (.seq (.seq (.reg [⟨(some 22), (.mv (.t 8)), 0, none⟩, ⟨(some 23), (.bin .num .lss (.t 22) (.c (.int .i64 0))), 0, none⟩] none) (.cond (.t 23) (.seq (.reg [⟨(some 24), (.build [(.int .i64 0), (.sl 0 true []), (.sl 0 true [])] []), 0, none⟩, ⟨none, (.store 3 (.t 6) (.t 24)), 0, none⟩, ⟨(some 7), (.mv (.c (.int .i64 13))), 0, none⟩] none) .ret) .skip)) (.seq (.reg [⟨(some 25), (.faddr 0 (.t 3)), 0, none⟩, ⟨(some 26), (.load false [(.int .i64)] (.t 25)), 0, none⟩, ⟨(some 27), (.faddr 1 (.t 3)), 0, none⟩, ⟨(some 28), (.load false [(.sl 1)] (.t 27)), 0, none⟩, ⟨(some 29), (.mv (.t 8)), 0, none⟩, ⟨(some 30), (.slc 1 (.t 28) none (some (.t 29)) none), 0, none⟩, ⟨(some 31), (.call (.c (.fn 74)) [(.t 30)]), 0, none⟩, ⟨(some 32), (.faddr 2 (.t 3)), 2, none⟩, ⟨(some 33), (.load false [(.sl 1)] (.t 32)), 2, none⟩, ⟨(some 34), (.mv (.t 8)), 2, none⟩, ⟨(some 35), (.slc 1 (.t 33) none (some (.t 34)) none), 2, none⟩, ⟨(some 36), (.call (.c (.fn 74)) [(.t 35)]), 2, none⟩, ⟨(some 37), (.build [(.int .i64 0), (.sl 0 true []), (.sl 0 true [])] [(0, (1, (.t 26))), (1, (1, (.t 31))), (2, (1, (.t 36)))]), 4, none⟩, ⟨(some 9), (.alloc (.agg [(.int .i64 0), (.sl 0 true []), (.sl 0 true [])])), 4, none⟩, ⟨none, (.store 3 (.t 9) (.t 37)), 5, none⟩] (some [[], [0], [], [2], [], [3, 4, 2], [5, 3, 4, 2], [], [7], [], [8, 9, 7], [10, 6, 8, 9, 7, 5, 3, 4, 2], [1, 6, 11, 0, 5, 3, 4, 2, 10, 8, 9, 7], [], [13, 12, 11, 0, 1, 2, 3, 4, 5, 6, 7, 8, 9, 10]])) (.seq (.seq (.reg [⟨(some 38), (.mv (.t 2)), 0, none⟩, ⟨(some 39), (.faddr 1 (.t 3)), 0, none⟩, ⟨(some 40), (.load false [(.sl 1)] (.t 39)), 0, none⟩, ⟨(some 41), (.mv (.t 8)), 0, none⟩, ⟨(some 42), (.slc 1 (.t 40) (some (.t 41)) none none), 0, none⟩, ⟨(some 43), (.faddr 2 (.t 3)), 0, none⟩, ⟨(some 44), (.load false [(.sl 1)] (.t 43)), 0, none⟩, ⟨(some 45), (.mv (.t 8)), 0, none⟩, ⟨(some 46), (.slc 1 (.t 44) (some (.t 45)) none none), 0, none⟩, ⟨(some 47), (.call (.t 38) [(.t 9), (.t 42), (.t 46)]), 0, none⟩, ⟨(some 10), (.mv (.t 47)), 2, none⟩] (some [[], [], [1], [], [2, 3, 1], [], [5], [], [6, 7, 5], [0, 4, 8, 2, 3, 1, 6, 7, 5], [9, 0, 1, 2, 3, 4, 5, 6, 7, 8]])) (.seq (.reg [⟨(some 48), (.mv (.t 10)), 0, none⟩, ⟨(some 49), (.bin .num .neq (.t 48) (.c (.int .i64 0))), 0, none⟩] none) (.cond (.t 49) (.seq (.reg [⟨(some 50), (.build [(.int .i64 0), (.sl 0 true []), (.sl 0 true [])] []), 0, none⟩, ⟨(some 51), (.mv (.t 10)), 0, none⟩, ⟨none, (.store 3 (.t 6) (.t 50)), 0, none⟩, ⟨(some 7), (.mv (.t 51)), 0, none⟩] none) .ret) .skip))) (.seq (.seq (.reg [⟨(some 53), (.faddr 1 (.t 9)), 0, none⟩, ⟨(some 54), (.load false [(.sl 1)] (.t 53)), 0, none⟩, ⟨(some 55), (.call (.c (.fn 73)) [(.t 54)]), 0, none⟩, ⟨(some 52), (.mv (.t 55)), 2, none⟩, ⟨(some 56), (.extract (.t 52) 0), 2, none⟩, ⟨(some 57), (.extract (.t 52) 1), 2, none⟩, ⟨(some 11), (.mv (.t 56)), 2, none⟩, ⟨(some 12), (.mv (.t 57)), 2, none⟩] none) (.seq (.reg [⟨(some 58), (.mv (.t 12)), 0, none⟩, ⟨(some 59), (.bin .num .neq (.t 58) (.c (.int .i64 0))), 0, none⟩] none) (.cond (.t 59) (.seq (.reg [⟨(some 60), (.build [(.int .i64 0), (.sl 0 true []), (.sl 0 true [])] []), 0, none⟩, ⟨(some 61), (.mv (.t 12)), 0, none⟩, ⟨none, (.store 3 (.t 6) (.t 60)), 0, none⟩, ⟨(some 7), (.mv (.t 61)), 0, none⟩] none) .ret) .skip))) (.seq (.reg [⟨(some 62), (.load true [(.int .i64), (.sl 1), (.sl 1)] (.t 9)), 0, none⟩, ⟨none, (.store 3 (.t 6) (.t 62)), 0, none⟩, ⟨(some 7), (.mv (.c (.int .i64 0))), 0, none⟩] none) .ret))))))))
def rs_stran : List IRes := [(.cell true 3 6), (.tmp 7)]
abbrev nt_stran : Nat := 63
def T_stran : Tab := tab [(76, .pure pre_v1 val_formed), (74, .own pre_copyn val_copyo), (73, .pure pre_size val_size), (90, .own (pre0 2) (val0p tranC))]
theorem stran_s {r : AV × List AObj × List AObj} (o : Int) (d s : List Int) (t u : Bool) (h : (pre_v1 [(.agg [(.int .i64 o), (.sl 1 t (nums d)), (.sl 1 u (nums s))])]) = true ∧ (if (!formB (PV.agg [PV.int .i64 o, PV.sl 1 t (nums d), PV.sl 1 u (nums s)]).vD (PV.agg [PV.int .i64 o, PV.sl 1 t (nums d), PV.sl 1 u (nums s)]).vS) = true then ((.pv (.tup [(.agg [(.int .i64 0), (.sl 0 true []), (.sl 0 true [])]), (.int .i64 1)])), ([], [])) = r else (if (decide (IntKind.i64.wrap ((↑(nums d).length : Int) - 2) < 0)) = true then ((.pv (.tup [(.agg [(.int .i64 0), (.sl 0 true []), (.sl 0 true [])]), (.int .i64 13)])), ([], [])) = r else ((true && decide (0 ≤ IntKind.i64.wrap ((↑(nums d).length : Int) - 2)) && ((nums d).isEmpty || 1 == 1) && decide (0 ≤ (IntKind.i64.wrap ((↑(nums d).length : Int) - 2)).toNat) && decide ((IntKind.i64.wrap ((↑(nums d).length : Int) - 2)).toNat ≤ (nums d).length)) = true ∧ (pre_copyn [(.pv (.sl 1 (t && decide ((IntKind.i64.wrap ((↑(nums d).length : Int) - 2)).toNat = (nums d).length)) (List.drop 0 (List.take (IntKind.i64.wrap ((↑(nums d).length : Int) - 2)).toNat (nums d)))))] []) = true ∧ (true && decide (0 ≤ IntKind.i64.wrap ((↑(nums d).length : Int) - 2)) && ((nums s).isEmpty || 1 == 1) && decide (0 ≤ (IntKind.i64.wrap ((↑(nums d).length : Int) - 2)).toNat) && decide ((IntKind.i64.wrap ((↑(nums d).length : Int) - 2)).toNat ≤ (nums s).length)) = true ∧ (pre_copyn [(.pv (.sl 1 (u && decide ((IntKind.i64.wrap ((↑(nums d).length : Int) - 2)).toNat = (nums s).length)) (List.drop 0 (List.take (IntKind.i64.wrap ((↑(nums d).length : Int) - 2)).toNat (nums s)))))] []) = true ∧ (decide (0 ≤ IntKind.i64.wrap ((↑(nums d).length : Int) - 2)) && true && ((nums d).isEmpty || 1 == 1) && decide ((IntKind.i64.wrap ((↑(nums d).length : Int) - 2)).toNat ≤ (nums d).length) && decide ((nums d).length ≤ (nums d).length)) = true ∧ (decide (0 ≤ IntKind.i64.wrap ((↑(nums d).length : Int) - 2)) && true && ((nums s).isEmpty || 1 == 1) && decide ((IntKind.i64.wrap ((↑(nums d).length : Int) - 2)).toNat ≤ (nums s).length) && decide ((nums s).length ≤ (nums s).length)) = true ∧ (pre0 2 [(.ptr 0 0), (.pv (.sl 1 (t && decide ((nums d).length = (nums d).length)) (List.drop (IntKind.i64.wrap ((↑(nums d).length : Int) - 2)).toNat (List.take (nums d).length (nums d))))), (.pv (.sl 1 (u && decide ((nums s).length = (nums s).length)) (List.drop (IntKind.i64.wrap ((↑(nums d).length : Int) - 2)).toNat (List.take (nums s).length (nums s)))))] [(.box [(.pv (.int .i64 o)), (.row 1 ((List.drop 0 (List.take (IntKind.i64.wrap ((↑(nums d).length : Int) - 2)).toNat (nums d))).length) 0 ((List.drop 0 (List.take (IntKind.i64.wrap ((↑(nums d).length : Int) - 2)).toNat (nums d))).length)), (.row 2 ((List.drop 0 (List.take (IntKind.i64.wrap ((↑(nums d).length : Int) - 2)).toNat (nums s))).length) 0 ((List.drop 0 (List.take (IntKind.i64.wrap ((↑(nums d).length : Int) - 2)).toNat (nums s))).length))]), (.row false 3 1 (List.drop 0 (List.take (IntKind.i64.wrap ((↑(nums d).length : Int) - 2)).toNat (nums d)))), (.row false 3 1 (List.drop 0 (List.take (IntKind.i64.wrap ((↑(nums d).length : Int) - 2)).toNat (nums s))))]) = true ∧ (((addL (List.drop 0 (List.take (IntKind.i64.wrap ((↑(nums d).length : Int) - 2)).toNat (nums d))) (dimC tranC (caOf o (List.drop 0 (List.take (IntKind.i64.wrap ((↑(nums d).length : Int) - 2)).toNat (nums d))) (List.drop 0 (List.take (IntKind.i64.wrap ((↑(nums d).length : Int) - 2)).toNat (nums s))) (List.drop (IntKind.i64.wrap ((↑(nums d).length : Int) - 2)).toNat (List.take (nums d).length (nums d))) (List.drop (IntKind.i64.wrap ((↑(nums d).length : Int) - 2)).toNat (List.take (nums s).length (nums s))) 0))).length == (addL (List.drop 0 (List.take (IntKind.i64.wrap ((↑(nums d).length : Int) - 2)).toNat (nums d))) (dimC tranC (caOf o (List.drop 0 (List.take (IntKind.i64.wrap ((↑(nums d).length : Int) - 2)).toNat (nums d))) (List.drop 0 (List.take (IntKind.i64.wrap ((↑(nums d).length : Int) - 2)).toNat (nums s))) (List.drop (IntKind.i64.wrap ((↑(nums d).length : Int) - 2)).toNat (List.take (nums d).length (nums d))) (List.drop (IntKind.i64.wrap ((↑(nums d).length : Int) - 2)).toNat (List.take (nums s).length (nums s))) 0))).length) = true ∧ (pre_size [(.sl 1 false (List.drop 0 (List.take (addL (List.drop 0 (List.take (IntKind.i64.wrap ((↑(nums d).length : Int) - 2)).toNat (nums d))) (dimC tranC (caOf o (List.drop 0 (List.take (IntKind.i64.wrap ((↑(nums d).length : Int) - 2)).toNat (nums d))) (List.drop 0 (List.take (IntKind.i64.wrap ((↑(nums d).length : Int) - 2)).toNat (nums s))) (List.drop (IntKind.i64.wrap ((↑(nums d).length : Int) - 2)).toNat (List.take (nums d).length (nums d))) (List.drop (IntKind.i64.wrap ((↑(nums d).length : Int) - 2)).toNat (List.take (nums s).length (nums s))) 0))).length (addL (List.drop 0 (List.take (IntKind.i64.wrap ((↑(nums d).length : Int) - 2)).toNat (nums d))) (dimC tranC (caOf o (List.drop 0 (List.take (IntKind.i64.wrap ((↑(nums d).length : Int) - 2)).toNat (nums d))) (List.drop 0 (List.take (IntKind.i64.wrap ((↑(nums d).length : Int) - 2)).toNat (nums s))) (List.drop (IntKind.i64.wrap ((↑(nums d).length : Int) - 2)).toNat (List.take (nums d).length (nums d))) (List.drop (IntKind.i64.wrap ((↑(nums d).length : Int) - 2)).toNat (List.take (nums s).length (nums s))) 0))))))]) = true ∧ (if ((sizeB (List.map PV.asInt (List.drop 0 (List.take (addL (List.drop 0 (List.take (IntKind.i64.wrap ((↑(nums d).length : Int) - 2)).toNat (nums d))) (dimC tranC (caOf o (List.drop 0 (List.take (IntKind.i64.wrap ((↑(nums d).length : Int) - 2)).toNat (nums d))) (List.drop 0 (List.take (IntKind.i64.wrap ((↑(nums d).length : Int) - 2)).toNat (nums s))) (List.drop (IntKind.i64.wrap ((↑(nums d).length : Int) - 2)).toNat (List.take (nums d).length (nums d))) (List.drop (IntKind.i64.wrap ((↑(nums d).length : Int) - 2)).toNat (List.take (nums s).length (nums s))) 0))).length (addL (List.drop 0 (List.take (IntKind.i64.wrap ((↑(nums d).length : Int) - 2)).toNat (nums d))) (dimC tranC (caOf o (List.drop 0 (List.take (IntKind.i64.wrap ((↑(nums d).length : Int) - 2)).toNat (nums d))) (List.drop 0 (List.take (IntKind.i64.wrap ((↑(nums d).length : Int) - 2)).toNat (nums s))) (List.drop (IntKind.i64.wrap ((↑(nums d).length : Int) - 2)).toNat (List.take (nums d).length (nums d))) (List.drop (IntKind.i64.wrap ((↑(nums d).length : Int) - 2)).toNat (List.take (nums s).length (nums s))) 0))))))).snd != 0) = true then ((.pv (.tup [(.agg [(.int .i64 0), (.sl 0 true []), (.sl 0 true [])]), (.int .i64 ((sizeB (List.map PV.asInt (List.drop 0 (List.take (addL (List.drop 0 (List.take (IntKind.i64.wrap ((↑(nums d).length : Int) - 2)).toNat (nums d))) (dimC tranC (caOf o (List.drop 0 (List.take (IntKind.i64.wrap ((↑(nums d).length : Int) - 2)).toNat (nums d))) (List.drop 0 (List.take (IntKind.i64.wrap ((↑(nums d).length : Int) - 2)).toNat (nums s))) (List.drop (IntKind.i64.wrap ((↑(nums d).length : Int) - 2)).toNat (List.take (nums d).length (nums d))) (List.drop (IntKind.i64.wrap ((↑(nums d).length : Int) - 2)).toNat (List.take (nums s).length (nums s))) 0))).length (addL (List.drop 0 (List.take (IntKind.i64.wrap ((↑(nums d).length : Int) - 2)).toNat (nums d))) (dimC tranC (caOf o (List.drop 0 (List.take (IntKind.i64.wrap ((↑(nums d).length : Int) - 2)).toNat (nums d))) (List.drop 0 (List.take (IntKind.i64.wrap ((↑(nums d).length : Int) - 2)).toNat (nums s))) (List.drop (IntKind.i64.wrap ((↑(nums d).length : Int) - 2)).toNat (List.take (nums d).length (nums d))) (List.drop (IntKind.i64.wrap ((↑(nums d).length : Int) - 2)).toNat (List.take (nums s).length (nums s))) 0))))))).snd))])), ([], [])) = r else (((addL (List.drop 0 (List.take (IntKind.i64.wrap ((↑(nums d).length : Int) - 2)).toNat (nums d))) (dimC tranC (caOf o (List.drop 0 (List.take (IntKind.i64.wrap ((↑(nums d).length : Int) - 2)).toNat (nums d))) (List.drop 0 (List.take (IntKind.i64.wrap ((↑(nums d).length : Int) - 2)).toNat (nums s))) (List.drop (IntKind.i64.wrap ((↑(nums d).length : Int) - 2)).toNat (List.take (nums d).length (nums d))) (List.drop (IntKind.i64.wrap ((↑(nums d).length : Int) - 2)).toNat (List.take (nums s).length (nums s))) 0))).length == (addL (List.drop 0 (List.take (IntKind.i64.wrap ((↑(nums d).length : Int) - 2)).toNat (nums d))) (dimC tranC (caOf o (List.drop 0 (List.take (IntKind.i64.wrap ((↑(nums d).length : Int) - 2)).toNat (nums d))) (List.drop 0 (List.take (IntKind.i64.wrap ((↑(nums d).length : Int) - 2)).toNat (nums s))) (List.drop (IntKind.i64.wrap ((↑(nums d).length : Int) - 2)).toNat (List.take (nums d).length (nums d))) (List.drop (IntKind.i64.wrap ((↑(nums d).length : Int) - 2)).toNat (List.take (nums s).length (nums s))) 0))).length) = true ∧ ((addL (List.drop 0 (List.take (IntKind.i64.wrap ((↑(nums d).length : Int) - 2)).toNat (nums s))) (strC tranC (caOf o (List.drop 0 (List.take (IntKind.i64.wrap ((↑(nums d).length : Int) - 2)).toNat (nums d))) (List.drop 0 (List.take (IntKind.i64.wrap ((↑(nums d).length : Int) - 2)).toNat (nums s))) (List.drop (IntKind.i64.wrap ((↑(nums d).length : Int) - 2)).toNat (List.take (nums d).length (nums d))) (List.drop (IntKind.i64.wrap ((↑(nums d).length : Int) - 2)).toNat (List.take (nums s).length (nums s))) 0))).length == (addL (List.drop 0 (List.take (IntKind.i64.wrap ((↑(nums d).length : Int) - 2)).toNat (nums s))) (strC tranC (caOf o (List.drop 0 (List.take (IntKind.i64.wrap ((↑(nums d).length : Int) - 2)).toNat (nums d))) (List.drop 0 (List.take (IntKind.i64.wrap ((↑(nums d).length : Int) - 2)).toNat (nums s))) (List.drop (IntKind.i64.wrap ((↑(nums d).length : Int) - 2)).toNat (List.take (nums d).length (nums d))) (List.drop (IntKind.i64.wrap ((↑(nums d).length : Int) - 2)).toNat (List.take (nums s).length (nums s))) 0))).length) = true ∧ (((.pv (.tup [(.agg [(.int .i64 (offC tranC (caOf o (List.drop 0 (List.take (IntKind.i64.wrap ((↑(nums d).length : Int) - 2)).toNat (nums d))) (List.drop 0 (List.take (IntKind.i64.wrap ((↑(nums d).length : Int) - 2)).toNat (nums s))) (List.drop (IntKind.i64.wrap ((↑(nums d).length : Int) - 2)).toNat (List.take (nums d).length (nums d))) (List.drop (IntKind.i64.wrap ((↑(nums d).length : Int) - 2)).toNat (List.take (nums s).length (nums s))) 0))), (.sl 1 false (List.drop 0 (List.take (addL (List.drop 0 (List.take (IntKind.i64.wrap ((↑(nums d).length : Int) - 2)).toNat (nums d))) (dimC tranC (caOf o (List.drop 0 (List.take (IntKind.i64.wrap ((↑(nums d).length : Int) - 2)).toNat (nums d))) (List.drop 0 (List.take (IntKind.i64.wrap ((↑(nums d).length : Int) - 2)).toNat (nums s))) (List.drop (IntKind.i64.wrap ((↑(nums d).length : Int) - 2)).toNat (List.take (nums d).length (nums d))) (List.drop (IntKind.i64.wrap ((↑(nums d).length : Int) - 2)).toNat (List.take (nums s).length (nums s))) 0))).length (addL (List.drop 0 (List.take (IntKind.i64.wrap ((↑(nums d).length : Int) - 2)).toNat (nums d))) (dimC tranC (caOf o (List.drop 0 (List.take (IntKind.i64.wrap ((↑(nums d).length : Int) - 2)).toNat (nums d))) (List.drop 0 (List.take (IntKind.i64.wrap ((↑(nums d).length : Int) - 2)).toNat (nums s))) (List.drop (IntKind.i64.wrap ((↑(nums d).length : Int) - 2)).toNat (List.take (nums d).length (nums d))) (List.drop (IntKind.i64.wrap ((↑(nums d).length : Int) - 2)).toNat (List.take (nums s).length (nums s))) 0)))))), (.sl 1 false (List.drop 0 (List.take (addL (List.drop 0 (List.take (IntKind.i64.wrap ((↑(nums d).length : Int) - 2)).toNat (nums s))) (strC tranC (caOf o (List.drop 0 (List.take (IntKind.i64.wrap ((↑(nums d).length : Int) - 2)).toNat (nums d))) (List.drop 0 (List.take (IntKind.i64.wrap ((↑(nums d).length : Int) - 2)).toNat (nums s))) (List.drop (IntKind.i64.wrap ((↑(nums d).length : Int) - 2)).toNat (List.take (nums d).length (nums d))) (List.drop (IntKind.i64.wrap ((↑(nums d).length : Int) - 2)).toNat (List.take (nums s).length (nums s))) 0))).length (addL (List.drop 0 (List.take (IntKind.i64.wrap ((↑(nums d).length : Int) - 2)).toNat (nums s))) (strC tranC (caOf o (List.drop 0 (List.take (IntKind.i64.wrap ((↑(nums d).length : Int) - 2)).toNat (nums d))) (List.drop 0 (List.take (IntKind.i64.wrap ((↑(nums d).length : Int) - 2)).toNat (nums s))) (List.drop (IntKind.i64.wrap ((↑(nums d).length : Int) - 2)).toNat (List.take (nums d).length (nums d))) (List.drop (IntKind.i64.wrap ((↑(nums d).length : Int) - 2)).toNat (List.take (nums s).length (nums s))) 0))))))]), (.int .i64 0)])), ([], [])) = r)))))))) : Gets T_stran 0 (fun st => finF 0 st rs_stran = some r) ic_stran [] (st0O 63 [.pv (.agg [.int .i64 o, .sl 1 t (nums d), .sl 1 u (nums s)]), .pv (.int .i64 2), .pv (.fn 90)] []) := Gets.wf (.req (.ask (.nil) (.lit (.lit (.ask (.nil) (.req (.req (.req (.req (.req (.req (.req (.lit (.lit (.req (.req (.lit (.ask (.nil) (.req (.req (.nil))))))))))))))))))))) h (by kernel_rfl)
end Go.Pl

namespace Go.Pl
open Go.RowKit
set_option maxRecDepth 100000
def caT (rk : Nat) (o : Int) (d s : List Int) (k : Int) : CA := ⟨o, d.take (d.length - rk), s.take (d.length - rk), d.drop (d.length - rk), s.drop (d.length - rk), k⟩
abbrev VR := (Int × List Int × List Int) × Int
def stepB (f : Chg) (rk : Nat) (o : Int) (d s : List Int) (k : Int) : VR :=
  bif formB d s then bif decide (d.length < rk) then ((0, [], []), 13) else
    bif errC f (caT rk o d s k) != 0 then ((0, [], []), errC f (caT rk o d s k)) else
    bif (sizeB (d.take (d.length - rk) ++ dimC f (caT rk o d s k))).2 != 0 then ((0, [], []), (sizeB (d.take (d.length - rk) ++ dimC f (caT rk o d s k))).2) else
    ((offC f (caT rk o d s k), d.take (d.length - rk) ++ dimC f (caT rk o d s k), s.take (d.length - rk) ++ strC f (caT rk o d s k)), 0)
  else ((0, [], []), 1)
def vrP (r : VR) : PV := .tup [.agg [.int .i64 r.1.1, .sl 1 false (nums r.1.2.1), .sl 1 false (nums r.1.2.2)], .int .i64 r.2]
def vrQ (r : VR) : PV := bif r.2 == 0 then vrP r else .tup [.agg [.int .i64 0, .sl 0 true [], .sl 0 true []], .int .i64 r.2]
theorem vrQ_sub {r : VR} (h : r.2 ≠ 0 → r.1 = (0, [], [])) : Sub (vrQ r) (vrP r) := by
  unfold vrQ
  cases e : r.2 == 0 with
  | true => exact .refl _
  | false =>
    have e' : r.2 ≠ 0 := by simpa using e
    have := h e'
    obtain ⟨⟨a, b, c⟩, x⟩ := r
    simp only [Prod.mk.injEq] at this
    obtain ⟨rfl, rfl, rfl⟩ := this
    exact .pair (.agg_cons (.refl _) (.agg_cons (.sl0 _ _ _) (.agg_cons (.sl0 _ _ _) .agg_nil))) (.refl _)
theorem stepB_err (f : Chg) (rk : Nat) (o : Int) (d s : List Int) (k : Int) : (stepB f rk o d s k).2 ≠ 0 → (stepB f rk o d s k).1 = (0, [], []) := by
  unfold stepB
  cases formB d s <;> simp
  by_cases h : d.length < rk <;> simp [h]
  cases h1 : errC f (caT rk o d s k) != 0 <;> simp
  cases h2 : (sizeB (d.take (d.length - rk) ++ dimC f (caT rk o d s k))).2 != 0 <;> simp
theorem form_ok {d s : List Int} (h : formB d s = true) : d.length ≤ 6 ∧ s.length = d.length := by
  simp only [formB, Bool.and_eq_true, beq_iff_eq, decide_eq_true_eq] at h
  exact ⟨(sizeB_ok (by simp [h.1])).1, h.2⟩
theorem dm_len {rk : Nat} {d : List Int} (h1 : d.length ≤ 6) (h2 : ¬ d.length < rk) : IntKind.i64.wrap ((d.length : Int) - (rk : Int)) = ((d.length - rk : Nat) : Int) := by
  rw [wrap64 (by omega) (by omega)]; omega
theorem pre_copyn_of {t : Bool} {xs : List Int} (h1 : xs.length ≤ 1000000) (h2 : xs.length ≠ 0) : pre_copyn [.pv (.sl 1 t (nums xs))] [] = true := by
  cases xs with
  | nil => simp at h2
  | cons x xs => simp [pre_copyn]; exact ⟨by simpa using h1, by simp [nums]⟩
theorem pre1_of {rk : Nat} {o k : Int} {d s ns ms : List Int} {t u : Bool} (h1 : d.length ≤ 10000) (h2 : s.length ≤ 10000) (h3 : ns.length = rk) (h4 : ms.length = rk) :
    pre1 rk [.ptr 0 0, .pv (.sl 1 t (nums ns)), .pv (.sl 1 u (nums ms)), .ptr 1 0] [.box [.pv (.int .i64 o), .row 2 d.length 0 d.length, .row 3 s.length 0 s.length], .box [.pv (.int .i64 k)], .row false 3 1 (nums d), .row false 3 1 (nums s)] = true := by
  simp [pre1, dec1, okA, h1, h2, h3, h4]
theorem pre0_of {rk : Nat} {o : Int} {d s ns ms : List Int} {t u : Bool} (h1 : d.length ≤ 10000) (h2 : s.length ≤ 10000) (h3 : ns.length = rk) (h4 : ms.length = rk) :
    pre0 rk [.ptr 0 0, .pv (.sl 1 t (nums ns)), .pv (.sl 1 u (nums ms))] [.box [.pv (.int .i64 o), .row 1 d.length 0 d.length, .row 2 s.length 0 s.length], .row false 3 1 (nums d), .row false 3 1 (nums s)] = true := by
  simp [pre0, dec0, okA, h1, h2, h3, h4]
def pre_st1 (g rk : Nat) : List AV → List AObj → Bool
  | [.pv p, .pv (.int .i64 r), .fn g' [] [.ptr 0 0]], [.box [.pv (.int .i64 _)]] => pre_view p && (r == rk && g' == g)
  | _, _ => false
def pre_sn1 (g rk : Nat) : List AV → List AObj → Bool
  | [.pv p, .pv (.int .i64 r), .fn g' [] [.ptr 0 0]], [.box [.pv (.int .i64 _)]] => pre_view p && (r == rk && (g' == g && decide (p.vD.length ≠ rk)))
  | _, _ => false
def val_st1 (f : Chg) (rk : Nat) : List AV → List AObj → AV × List AObj × List AObj
  | [.pv p, _, _], [.box [.pv (.int .i64 k)]] => (.pv (vrP (stepB f rk p.vO p.vD p.vS k)), [.box [.pv (.int .i64 k)]], [])
  | _, _ => (.junk, [], [])
def pre_st0 (g rk : Nat) : List AV → List AObj → Bool
  | [.pv p, .pv (.int .i64 r), .pv (.fn g')], [] => pre_view p && (r == rk && g' == g)
  | _, _ => false
def pre_sn0 (g rk : Nat) : List AV → List AObj → Bool
  | [.pv p, .pv (.int .i64 r), .pv (.fn g')], [] => pre_view p && (r == rk && (g' == g && decide (p.vD.length ≠ rk)))
  | _, _ => false
def val_st0 (f : Chg) (rk : Nat) : List AV → List AObj → AV × List AObj × List AObj
  | [.pv p, _, _], [] => (.pv (vrP (stepB f rk p.vO p.vD p.vS 0)), [], [])
  | _, _ => (.junk, [], [])
theorem swind_run : ∀ args os, pre_sn1 101 1 args os = true → ∃ p p' os' ext, Gets T_swind os.length (fun st => finF os.length st rs_swind = some (.pv p, os', ext)) ic_swind [] (st0O nt_swind args os) ∧ Sub p p' ∧ val_st1 windC 1 args os = (.pv p', os', ext) := by
  intro args os hp
  unfold pre_sn1 at hp
  split at hp
  · rename_i p r g' k
    simp only [Bool.and_eq_true, beq_iff_eq] at hp
    obtain ⟨hv, rfl, rfl, hne⟩ := hp
    obtain ⟨o, d, s, t, u, rfl, hd, hs⟩ := view_of hv
    simp only [vw_D, decide_eq_true_eq] at hne
    refine ⟨vrQ (stepB windC 1 o d s k), _, _, _, swind_s (r := (.pv (vrQ (stepB windC 1 o d s k)), [.box [.pv (.int .i64 k)]], [])) o d s t u k ?_, vrQ_sub (stepB_err _ _ _ _ _ _), by simp only [val_st1, vw_D, vw_S, vw_O]⟩
    refine ⟨by simpa [pre_v1] using hv, ?_⟩
    simp only [vw_D, vw_S]
    cases hf : formB d s with
    | false => simp [stepB, hf, vrQ]
    | true =>
      obtain ⟨h6, hl⟩ := form_ok hf
      rw [if_neg (by simp)]
      by_cases hr : d.length < 1
      · rw [if_pos (by simp only [nums_length, decide_eq_true_eq]; rw [wrap64 (by omega) (by omega)]; omega)]
        simp [stepB, hf, vrQ, hr]
      · have hK := dm_len h6 hr
        simp only [nums_length, List.drop_zero, Int.cast_ofNat_Int] at hK ⊢
        have hK' : (IntKind.i64.wrap ((d.length : Int) - (1 : Int))) = ((d.length - 1 : Nat) : Int) := by simpa using hK
        simp only [hK', Int.toNat_natCast, nums_take, nums_drop, List.take_length, caOf, asInt_nums, addL, ← nums_append, nums_length, PV.ns]
        rw [if_neg (by simp)]
        have ht : List.take d.length s = s := by rw [← hl]; exact List.take_length
        refine ⟨by simp, pre_copyn_of (by simp; omega) (by simp; omega), by simp; omega, pre_copyn_of (by simp; omega) (by simp only [List.length_take, hl]; omega), by simp, by simp; omega, ?_, ?_⟩
        · exact pre1_of (by simp; omega) (by simp; omega) (by simp; omega) (by simp; omega)
        · have hc : (⟨o, d.take (d.length - 1), s.take (d.length - 1), d.drop (d.length - 1), s.drop (d.length - 1), k⟩ : CA) = caT 1 o d s k := rfl
          simp only [hc]
          cases he : errC windC (caT 1 o d s k) != 0 with
          | true =>
            have he' : errC windC (caT 1 o d s k) ≠ 0 := by simpa using he
            simp [stepB, hf, vrQ, hr, he, beq_eq_false_iff_ne.2 he']
          | false =>
            have he' : errC windC (caT 1 o d s k) = 0 := by simpa using he
            rw [if_neg (by simp)]
            refine ⟨by simp, by simp [pre_size], ?_⟩
            cases hz : (sizeB (d.take (d.length - 1) ++ dimC windC (caT 1 o d s k))).2 != 0 with
            | true =>
              have hz' : (sizeB (d.take (d.length - 1) ++ dimC windC (caT 1 o d s k))).2 ≠ 0 := by simpa using hz
              simp [stepB, hf, vrQ, hr, he', hz, beq_eq_false_iff_ne.2 hz']
            | false =>
              have hz' : (sizeB (d.take (d.length - 1) ++ dimC windC (caT 1 o d s k))).2 = 0 := by simpa using hz
              simp [stepB, hf, vrQ, vrP, hr, he', hz, nums_append, nums_take, nums_drop]
  · cases hp
theorem stran_run : ∀ args os, pre_sn0 90 2 args os = true → ∃ p p' os' ext, Gets T_stran os.length (fun st => finF os.length st rs_stran = some (.pv p, os', ext)) ic_stran [] (st0O nt_stran args os) ∧ Sub p p' ∧ val_st0 tranC 2 args os = (.pv p', os', ext) := by
  intro args os hp
  unfold pre_sn0 at hp
  split at hp
  · rename_i p r g'
    simp only [Bool.and_eq_true, beq_iff_eq] at hp
    obtain ⟨hv, rfl, rfl, hne⟩ := hp
    obtain ⟨o, d, s, t, u, rfl, hd, hs⟩ := view_of hv
    simp only [vw_D, decide_eq_true_eq] at hne
    refine ⟨vrQ (stepB tranC 2 o d s 0), _, _, _, stran_s (r := (.pv (vrQ (stepB tranC 2 o d s 0)), [], [])) o d s t u ?_, vrQ_sub (stepB_err _ _ _ _ _ _), by simp only [val_st0, vw_D, vw_S, vw_O]⟩
    refine ⟨by simpa [pre_v1] using hv, ?_⟩
    simp only [vw_D, vw_S]
    cases hf : formB d s with
    | false => simp [stepB, hf, vrQ]
    | true =>
      obtain ⟨h6, hl⟩ := form_ok hf
      rw [if_neg (by simp)]
      by_cases hr : d.length < 2
      · rw [if_pos (by simp only [nums_length, decide_eq_true_eq]; rw [wrap64 (by omega) (by omega)]; omega)]
        simp [stepB, hf, vrQ, hr]
      · have hK := dm_len h6 hr
        simp only [nums_length, List.drop_zero, Int.cast_ofNat_Int] at hK ⊢
        have hK' : (IntKind.i64.wrap ((d.length : Int) - (2 : Int))) = ((d.length - 2 : Nat) : Int) := by simpa using hK
        simp only [hK', Int.toNat_natCast, nums_take, nums_drop, List.take_length, caOf, asInt_nums, addL, ← nums_append, nums_length, PV.ns]
        rw [if_neg (by simp)]
        have ht : List.take d.length s = s := by rw [← hl]; exact List.take_length
        refine ⟨by simp, pre_copyn_of (by simp; omega) (by simp; omega), by simp; omega, pre_copyn_of (by simp; omega) (by simp only [List.length_take, hl]; omega), by simp, by simp; omega, ?_, ?_⟩
        · exact pre0_of (by simp; omega) (by simp; omega) (by simp; omega) (by simp; omega)
        · have hc : (⟨o, d.take (d.length - 2), s.take (d.length - 2), d.drop (d.length - 2), s.drop (d.length - 2), 0⟩ : CA) = caT 2 o d s 0 := rfl
          simp only [hc]
          have he' : errC tranC (caT 2 o d s 0) = 0 := rfl
          refine ⟨by simp, by simp [pre_size], ?_⟩
          cases hz : (sizeB (d.take (d.length - 2) ++ dimC tranC (caT 2 o d s 0))).2 != 0 with
          | true =>
            have hz' : (sizeB (d.take (d.length - 2) ++ dimC tranC (caT 2 o d s 0))).2 ≠ 0 := by simpa using hz
            simp [stepB, hf, vrQ, hr, he', hz, beq_eq_false_iff_ne.2 hz']
          | false =>
            have hz' : (sizeB (d.take (d.length - 2) ++ dimC tranC (caT 2 o d s 0))).2 = 0 := by simpa using hz
            simp [stepB, hf, vrQ, vrP, hr, he', hz, nums_append, nums_take, nums_drop]
  · cases hp
end Go.Pl

namespace Go.Pl
open Go.RowKit
set_option maxRecDepth 100000
def ic_put0 : IC := (.reg [⟨(some 6), (.mv (.t 0)), 0, none⟩, ⟨(some 7), (.mv (.t 0)), 0, none⟩, ⟨(some 8), (.mv (.t 0)), 0, none⟩, ⟨(some 9), (.nilchk (.t 8)), 0, none⟩, ⟨(some 10), (.faddr 1 (.t 9)), 0, none⟩, ⟨(some 11), (.load false [(.sl 1)] (.t 10)), 0, none⟩, ⟨(some 12), (.mv (.t 1)), 0, none⟩, ⟨(some 13), (.bslice 3 1 1 (.int .i64 0) [(0, (.t 12))]), 0, none⟩, ⟨(some 14), (.append 3 1 8 (.t 11) (.t 13)), 1, none⟩, ⟨(some 15), (.mv (.t 0)), 2, none⟩, ⟨(some 16), (.nilchk (.t 15)), 2, none⟩, ⟨(some 17), (.faddr 2 (.t 16)), 2, none⟩, ⟨(some 18), (.load false [(.sl 1)] (.t 17)), 2, none⟩, ⟨(some 19), (.mv (.t 2)), 2, none⟩, ⟨(some 20), (.bslice 3 1 1 (.int .i64 0) [(0, (.t 19))]), 2, none⟩, ⟨(some 21), (.append 3 1 8 (.t 18) (.t 20)), 3, none⟩, ⟨(some 22), (.nilchk (.t 6)), 4, none⟩, ⟨(some 23), (.faddr 1 (.t 22)), 4, none⟩, ⟨none, (.store 1 (.t 23) (.t 14)), 4, none⟩, ⟨(some 24), (.nilchk (.t 7)), 4, none⟩, ⟨(some 25), (.faddr 2 (.t 24)), 4, none⟩, ⟨none, (.store 1 (.t 25) (.t 21)), 4, none⟩] (some [[], [], [], [2], [3, 2], [4, 3, 2], [], [6], [5, 7, 4, 3, 2, 6], [], [9], [10, 9], [11, 10, 9], [], [13], [12, 14, 8, 11, 10, 9, 13, 5, 7, 4, 3, 2, 6], [0, 2, 3, 4, 5, 6, 7, 8, 12, 15, 11, 10, 9, 14, 13], [16, 0, 2, 3, 4, 5, 6, 7, 8, 12, 15, 11, 10, 9, 14, 13], [17, 8, 15, 0, 2, 3, 4, 5, 6, 7, 12, 16, 11, 10, 9, 14, 13], [1, 0, 2, 3, 4, 5, 6, 7, 8, 9, 10, 11, 12, 13, 14, 15, 16, 17, 18], [19, 0, 1, 2, 3, 4, 5, 6, 7, 8, 9, 10, 11, 12, 13, 14, 15, 16, 17, 18], [20, 15, 18, 0, 1, 2, 3, 4, 5, 6, 7, 8, 9, 10, 11, 12, 13, 14, 16, 17, 19]]))
def rs_put0 : List IRes := []
abbrev nt_put0 : Nat := 26
def T_put0 : Tab := tab []
theorem put0_s {r : AV × List AObj × List AObj} (o n m : Int) (h : ((.tup []), ([(.box [(.pv (.int .i64 o)), (.row 1 1 0 1), (.row 2 1 0 1)])], [(.row false 3 1 [(.int .i64 n)]), (.row false 3 1 [(.int .i64 m)])])) = r) : Gets T_put0 1 (fun st => finO 1 st rs_put0 = some r) ic_put0 [] (st0O 26 [.ptr 0 0, .pv (.int .i64 n), .pv (.int .i64 m)] [.box [.pv (.int .i64 o), .pv (.sl 1 true []), .pv (.sl 1 true [])]]) := Gets.wo (.lit (.lit (.lit (.lit (.lit (.lit (.lit (.lit (.lit (.lit (.nil))))))))))) h (by kernel_rfl)
def ic_wind0 : IC := (.seq (.reg [⟨(some 7), (.mv (.c (.int .i64 0))), 0, none⟩] none) (.seq (.seq (.reg [⟨(some 8), (.load false [(.int .i64)] (.t 3)), 0, none⟩, ⟨(some 9), (.bin .num .lss (.t 8) (.c (.int .i64 0))), 0, none⟩, ⟨(some 10), (.mv (.t 9)), 0, none⟩, ⟨(some 11), (.load false [(.int .i64)] (.t 3)), 0, (some (10, false))⟩, ⟨(some 12), (.mv (.t 1)), 0, (some (10, false))⟩, ⟨(some 13), (.iaddr 1 (.t 12) (.c (.int .i64 0))), 0, (some (10, false))⟩, ⟨(some 14), (.load false [(.int .i64)] (.t 13)), 0, (some (10, false))⟩, ⟨(some 15), (.bin .num .gtr (.t 11) (.t 14)), 0, (some (10, false))⟩, ⟨(some 16), (.pick (.t 10) (.c (.bool true)) (.t 15)), 0, none⟩] (some [[], [0], [1, 0], [2, 1, 0], [2, 1, 0], [4, 2, 1, 0], [5, 2, 4, 1, 0], [3, 6, 2, 1, 0, 5, 4], [2, 7, 1, 0, 3, 6, 5, 4]])) (.cond (.t 16) (.seq (.reg [⟨(some 7), (.mv (.c (.int .i64 2))), 0, none⟩] none) .ret) .skip)) (.seq (.reg [⟨(some 17), (.mv (.t 0)), 0, none⟩, ⟨(some 18), (.mv (.t 1)), 0, none⟩, ⟨(some 19), (.iaddr 1 (.t 18) (.c (.int .i64 0))), 0, none⟩, ⟨(some 20), (.load false [(.int .i64)] (.t 19)), 0, none⟩, ⟨(some 21), (.load false [(.int .i64)] (.t 3)), 0, none⟩, ⟨(some 22), (.bin .num .sub (.t 20) (.t 21)), 0, none⟩, ⟨(some 23), (.bin .num .add (.t 22) (.c (.int .i64 1))), 0, none⟩, ⟨(some 24), (.mv (.t 2)), 0, none⟩, ⟨(some 25), (.iaddr 1 (.t 24) (.c (.int .i64 0))), 0, none⟩, ⟨(some 26), (.load false [(.int .i64)] (.t 25)), 0, none⟩, ⟨(some 27), (.call (.c (.fn 89)) [(.t 17), (.t 23), (.t 26)]), 0, none⟩] (some [[], [], [1], [2, 1], [], [3, 4, 2, 1], [5, 3, 4, 2, 1], [], [7], [8, 7], [0, 6, 9, 5, 3, 4, 2, 1, 8, 7]])) (.seq (.reg [⟨(some 28), (.mv (.t 0)), 0, none⟩, ⟨(some 29), (.load false [(.int .i64)] (.t 3)), 0, none⟩, ⟨(some 30), (.mv (.t 2)), 0, none⟩, ⟨(some 31), (.iaddr 1 (.t 30) (.c (.int .i64 0))), 0, none⟩, ⟨(some 32), (.load false [(.int .i64)] (.t 31)), 0, none⟩, ⟨(some 33), (.call (.c (.fn 89)) [(.t 28), (.t 29), (.t 32)]), 0, none⟩] (some [[], [], [], [2], [3, 2], [0, 1, 4, 3, 2]])) (.seq (.reg [⟨(some 7), (.mv (.c (.int .i64 0))), 0, none⟩] none) .ret)))))
def rs_wind0 : List IRes := [(.tmp 7)]
abbrev nt_wind0 : Nat := 34
def T_wind0 : Tab := tab [(89, .own pre_putc val_putc)]
theorem wind0_s {r : AV × List AObj × List AObj} (o : Int) (ns ms : List Int) (t u : Bool) (k : Int) (h : if (decide (k < 0)) = true then ((.pv (.int .i64 2)), ([(.box [(.pv (.int .i64 o)), (.pv (.sl 1 true [])), (.pv (.sl 1 true []))]), (.box [(.pv (.int .i64 k))])], [])) = r else ((decide (0 ≤ 0) && decide (Int.toNat 0 < (nums ns).length) && 1 == 1) = true ∧ ((decide (0 + [Sh.int .i64].length ≤ ((nums ns).getD (Int.toNat 0) default).cells.length) && shFit ((nums ns).getD (Int.toNat 0) default).cells 0 [Sh.int .i64]) = true ∧ (if (decide (k > (((nums ns).getD (Int.toNat 0) default).cells.getD 0 default).asInt)) = true then ((.pv (.int .i64 2)), ([(.box [(.pv (.int .i64 o)), (.pv (.sl 1 true [])), (.pv (.sl 1 true []))]), (.box [(.pv (.int .i64 k))])], [])) = r else ((decide (0 ≤ 0) && decide (Int.toNat 0 < (nums ns).length) && 1 == 1) = true ∧ (decide (0 + [Sh.int .i64].length ≤ ((nums ns).getD (Int.toNat 0) default).cells.length) && shFit ((nums ns).getD (Int.toNat 0) default).cells 0 [Sh.int .i64]) = true ∧ (decide (0 ≤ 0) && decide (Int.toNat 0 < (nums ms).length) && 1 == 1) = true ∧ (decide (0 + [Sh.int .i64].length ≤ ((nums ms).getD (Int.toNat 0) default).cells.length) && shFit ((nums ms).getD (Int.toNat 0) default).cells 0 [Sh.int .i64]) = true ∧ (decide (0 ≤ 0) && decide (Int.toNat 0 < (nums ms).length) && 1 == 1) = true ∧ (decide (0 + [Sh.int .i64].length ≤ ((nums ms).getD (Int.toNat 0) default).cells.length) && shFit ((nums ms).getD (Int.toNat 0) default).cells 0 [Sh.int .i64]) = true ∧ (((.pv (.int .i64 0)), ([(.box [(.pv (.int .i64 o)), (.pv (.sl 1 false [(.int .i64 (IntKind.i64.wrap (IntKind.i64.wrap ((((nums ns).getD (Int.toNat 0) default).cells.getD 0 default).asInt - k) + 1))), (.int .i64 k)])), (.pv (.sl 1 false [(.int .i64 ((((nums ms).getD (Int.toNat 0) default).cells.getD 0 default).asInt)), (.int .i64 ((((nums ms).getD (Int.toNat 0) default).cells.getD 0 default).asInt))]))]), (.box [(.pv (.int .i64 k))])], [])) = r)))))) : Gets T_wind0 2 (fun st => finF 2 st rs_wind0 = some r) ic_wind0 [] (st0O 34 [.ptr 0 0, .pv (.sl 1 t (nums ns)), .pv (.sl 1 u (nums ms)), .ptr 1 0] [.box [.pv (.int .i64 o), .pv (.sl 1 true []), .pv (.sl 1 true [])], .box [.pv (.int .i64 k)]]) := Gets.wf (.lit (.ask (.lit (.lit (.lit (.lit (.lit (.lit (.nil))))))) (.lit (.lit (.req (.lit (.req (.lit (.lit (.lit (.ask (.nil) (.req (.req (.lit (.lit (.req (.req (.lit (.req (.req (.lit (.lit (.lit (.nil)))))))))))))))))))))))) h (by kernel_rfl)
def ic_tran0 : IC := (.seq (.reg [⟨(some 6), (.mv (.c (.int .i64 0))), 0, none⟩] none) (.seq (.reg [⟨(some 7), (.mv (.t 0)), 0, none⟩, ⟨(some 8), (.mv (.t 1)), 0, none⟩, ⟨(some 9), (.iaddr 1 (.t 8) (.c (.int .i64 1))), 0, none⟩, ⟨(some 10), (.load false [(.int .i64)] (.t 9)), 0, none⟩, ⟨(some 11), (.mv (.t 2)), 0, none⟩, ⟨(some 12), (.iaddr 1 (.t 11) (.c (.int .i64 1))), 0, none⟩, ⟨(some 13), (.load false [(.int .i64)] (.t 12)), 0, none⟩, ⟨(some 14), (.call (.c (.fn 89)) [(.t 7), (.t 10), (.t 13)]), 0, none⟩] (some [[], [], [1], [2, 1], [], [4], [5, 4], [0, 3, 6, 2, 1, 5, 4]])) (.seq (.reg [⟨(some 15), (.mv (.t 0)), 0, none⟩, ⟨(some 16), (.mv (.t 1)), 0, none⟩, ⟨(some 17), (.iaddr 1 (.t 16) (.c (.int .i64 0))), 0, none⟩, ⟨(some 18), (.load false [(.int .i64)] (.t 17)), 0, none⟩, ⟨(some 19), (.mv (.t 2)), 0, none⟩, ⟨(some 20), (.iaddr 1 (.t 19) (.c (.int .i64 0))), 0, none⟩, ⟨(some 21), (.load false [(.int .i64)] (.t 20)), 0, none⟩, ⟨(some 22), (.call (.c (.fn 89)) [(.t 15), (.t 18), (.t 21)]), 0, none⟩] (some [[], [], [1], [2, 1], [], [4], [5, 4], [0, 3, 6, 2, 1, 5, 4]])) (.seq (.reg [⟨(some 6), (.mv (.c (.int .i64 0))), 0, none⟩] none) .ret))))
def rs_tran0 : List IRes := [(.tmp 6)]
abbrev nt_tran0 : Nat := 23
def T_tran0 : Tab := tab [(89, .own pre_putc val_putc)]
theorem tran0_s {r : AV × List AObj × List AObj} (o : Int) (ns ms : List Int) (t u : Bool) (h : (decide (0 ≤ 1) && decide (Int.toNat 1 < (nums ns).length) && 1 == 1) = true ∧ (decide (0 + [Sh.int .i64].length ≤ ((nums ns).getD (Int.toNat 1) default).cells.length) && shFit ((nums ns).getD (Int.toNat 1) default).cells 0 [Sh.int .i64]) = true ∧ (decide (0 ≤ 1) && decide (Int.toNat 1 < (nums ms).length) && 1 == 1) = true ∧ (decide (0 + [Sh.int .i64].length ≤ ((nums ms).getD (Int.toNat 1) default).cells.length) && shFit ((nums ms).getD (Int.toNat 1) default).cells 0 [Sh.int .i64]) = true ∧ (decide (0 ≤ 0) && decide (Int.toNat 0 < (nums ns).length) && 1 == 1) = true ∧ (decide (0 + [Sh.int .i64].length ≤ ((nums ns).getD (Int.toNat 0) default).cells.length) && shFit ((nums ns).getD (Int.toNat 0) default).cells 0 [Sh.int .i64]) = true ∧ (decide (0 ≤ 0) && decide (Int.toNat 0 < (nums ms).length) && 1 == 1) = true ∧ (decide (0 + [Sh.int .i64].length ≤ ((nums ms).getD (Int.toNat 0) default).cells.length) && shFit ((nums ms).getD (Int.toNat 0) default).cells 0 [Sh.int .i64]) = true ∧ (((.pv (.int .i64 0)), ([(.box [(.pv (.int .i64 o)), (.pv (.sl 1 false [(.int .i64 ((((nums ns).getD (Int.toNat 1) default).cells.getD 0 default).asInt)), (.int .i64 ((((nums ns).getD (Int.toNat 0) default).cells.getD 0 default).asInt))])), (.pv (.sl 1 false [(.int .i64 ((((nums ms).getD (Int.toNat 1) default).cells.getD 0 default).asInt)), (.int .i64 ((((nums ms).getD (Int.toNat 0) default).cells.getD 0 default).asInt))]))])], [])) = r)) : Gets T_tran0 1 (fun st => finF 1 st rs_tran0 = some r) ic_tran0 [] (st0O 23 [.ptr 0 0, .pv (.sl 1 t (nums ns)), .pv (.sl 1 u (nums ms))] [.box [.pv (.int .i64 o), .pv (.sl 1 true []), .pv (.sl 1 true [])]]) := Gets.wf (.req (.req (.req (.req (.lit (.req (.req (.req (.req (.lit (.lit (.lit (.nil))))))))))))) h (by kernel_rfl)
end Go.Pl

namespace Go.Pl
open Go.RowKit
set_option maxRecDepth 100000
theorem put0_run : ∀ args os, pre_put0 args os = true → Gets T_put0 os.length (fun st => finO os.length st rs_put0 = some (val_put0 args os)) ic_put0 [] (st0O nt_put0 args os) := by
  intro args os hp
  unfold pre_put0 at hp
  split at hp
  · rename_i n m o
    exact put0_s o n m rfl
  · cases hp
theorem wind0_run : ∀ args os, pre_c1z 1 args os = true → ∃ p p' os' ext, Gets T_wind0 os.length (fun st => finF os.length st rs_wind0 = some (.pv p, os', ext)) ic_wind0 [] (st0O nt_wind0 args os) ∧ Sub p p' ∧ val_c1z windC args os = (.pv p', os', ext) := by
  intro args os hp
  unfold pre_c1z at hp
  split at hp
  · rename_i t ns u ms o k
    simp only [Bool.and_eq_true, decide_eq_true_eq] at hp
    obtain ⟨h1, h2, h3, h4⟩ := hp
    obtain ⟨ns, rfl⟩ := nums_of h1
    obtain ⟨ms, rfl⟩ := nums_of h2
    rw [nums_length] at h3 h4
    match ns, ms, h3, h4 with
    | [n], [m], _, _ =>
      have key : Gets T_wind0 2 (fun st => finF 2 st rs_wind0 = some (val_c1z windC [.ptr 0 0, .pv (.sl 1 t (nums [n])), .pv (.sl 1 u (nums [m])), .ptr 1 0] [.box [.pv (.int .i64 o), .pv (.sl 1 true []), .pv (.sl 1 true [])], .box [.pv (.int .i64 k)]])) ic_wind0 [] (st0O nt_wind0 [.ptr 0 0, .pv (.sl 1 t (nums [n])), .pv (.sl 1 u (nums [m])), .ptr 1 0] [.box [.pv (.int .i64 o), .pv (.sl 1 true []), .pv (.sl 1 true [])], .box [.pv (.int .i64 k)]]) := by
        refine wind0_s o [n] [m] t u k ?_
        by_cases a1 : k < 0
        · simp [nums, PV.cells, PV.asInt, Sh.co, Sh.fit, shFit, val_c1z, caOf, windC, n0, m0, n1, m1, w64, errC, offC, dimC, strC, slT, a1]
        · by_cases a2 : k > n
          · simp [nums, PV.cells, PV.asInt, Sh.co, Sh.fit, shFit, val_c1z, caOf, windC, n0, m0, n1, m1, w64, errC, offC, dimC, strC, slT, a1, a2]
          · simp [nums, PV.cells, PV.asInt, Sh.co, Sh.fit, shFit, val_c1z, caOf, windC, n0, m0, n1, m1, w64, errC, offC, dimC, strC, slT, a1, a2]
      exact ⟨_, _, _, _, key, .refl _, rfl⟩
  · cases hp
theorem tran0_run : ∀ args os, pre_c0z 2 args os = true → ∃ p p' os' ext, Gets T_tran0 os.length (fun st => finF os.length st rs_tran0 = some (.pv p, os', ext)) ic_tran0 [] (st0O nt_tran0 args os) ∧ Sub p p' ∧ val_c0z tranC args os = (.pv p', os', ext) := by
  intro args os hp
  unfold pre_c0z at hp
  split at hp
  · rename_i t ns u ms o
    simp only [Bool.and_eq_true, decide_eq_true_eq] at hp
    obtain ⟨h1, h2, h3, h4⟩ := hp
    obtain ⟨ns, rfl⟩ := nums_of h1
    obtain ⟨ms, rfl⟩ := nums_of h2
    rw [nums_length] at h3 h4
    match ns, ms, h3, h4 with
    | [n, n'], [m, m'], _, _ =>
      have key : Gets T_tran0 1 (fun st => finF 1 st rs_tran0 = some (val_c0z tranC [.ptr 0 0, .pv (.sl 1 t (nums [n, n'])), .pv (.sl 1 u (nums [m, m']))] [.box [.pv (.int .i64 o), .pv (.sl 1 true []), .pv (.sl 1 true [])]])) ic_tran0 [] (st0O nt_tran0 [.ptr 0 0, .pv (.sl 1 t (nums [n, n'])), .pv (.sl 1 u (nums [m, m']))] [.box [.pv (.int .i64 o), .pv (.sl 1 true []), .pv (.sl 1 true [])]]) := by
        refine tran0_s o [n, n'] [m, m'] t u ?_
        simp [nums, PV.cells, PV.asInt, Sh.co, Sh.fit, shFit, val_c0z, caOf, tranC, n0, m0, n1, m1, w64, errC, offC, dimC, strC, slT]
      exact ⟨_, _, _, _, key, .refl _, rfl⟩
  · cases hp
end Go.Pl

namespace Go.Pl
open Go.RowKit
set_option maxRecDepth 100000
def ic_zwind : IC := (.seq (.reg [⟨(some 3), (.box 3 (.t 0)), 0, none⟩, ⟨(some 6), (.alloc (.agg [(.int .i64 0), (.sl 0 true []), (.sl 0 true [])])), 1, none⟩, ⟨(some 7), (.mv (.c (.int .i64 0))), 2, none⟩] none) (.seq (.seq (.reg [⟨(some 13), (.load true [(.int .i64), (.sl 1), (.sl 1)] (.t 3)), 0, none⟩, ⟨(some 14), (.call (.c (.fn 76)) [(.t 13)]), 0, none⟩, ⟨(some 15), (.un .not (.t 14)), 2, none⟩] none) (.cond (.t 15) (.seq (.reg [⟨(some 16), (.build [(.int .i64 0), (.sl 0 true []), (.sl 0 true [])] []), 0, none⟩, ⟨none, (.store 3 (.t 6) (.t 16)), 0, none⟩, ⟨(some 7), (.mv (.c (.int .i64 1))), 0, none⟩] none) .ret) .skip)) (.seq (.reg [⟨(some 17), (.faddr 1 (.t 3)), 0, none⟩, ⟨(some 18), (.load false [(.sl 1)] (.t 17)), 0, none⟩, ⟨(some 19), (.len 1 (.t 18)), 0, none⟩, ⟨(some 20), (.mv (.t 1)), 0, none⟩, ⟨(some 21), (.bin .num .sub (.t 19) (.t 20)), 0, none⟩, ⟨(some 8), (.mv (.t 21)), 0, none⟩] none) (.seq (.seq (.reg [⟨(some 22), (.mv (.t 8)), 0, none⟩, ⟨(some 23), (.bin .num .lss (.t 22) (.c (.int .i64 0))), 0, none⟩] none) (.cond (.t 23) (.seq (.reg [⟨(some 24), (.build [(.int .i64 0), (.sl 0 true []), (.sl 0 true [])] []), 0, none⟩, ⟨none, (.store 3 (.t 6) (.t 24)), 0, none⟩, ⟨(some 7), (.mv (.c (.int .i64 13))), 0, none⟩] none) .ret) .skip)) (.seq (.reg [⟨(some 25), (.faddr 0 (.t 3)), 0, none⟩, ⟨(some 26), (.load false [(.int .i64)] (.t 25)), 0, none⟩, ⟨(some 27), (.faddr 1 (.t 3)), 0, none⟩, ⟨(some 28), (.load false [(.sl 1)] (.t 27)), 0, none⟩, ⟨(some 29), (.mv (.t 8)), 0, none⟩, ⟨(some 30), (.slc 1 (.t 28) none (some (.t 29)) none), 0, none⟩, ⟨(some 31), (.call (.c (.fn 74)) [(.t 30)]), 0, none⟩, ⟨(some 32), (.faddr 2 (.t 3)), 2, none⟩, ⟨(some 33), (.load false [(.sl 1)] (.t 32)), 2, none⟩, ⟨(some 34), (.mv (.t 8)), 2, none⟩, ⟨(some 35), (.slc 1 (.t 33) none (some (.t 34)) none), 2, none⟩, ⟨(some 36), (.call (.c (.fn 74)) [(.t 35)]), 2, none⟩, ⟨(some 37), (.build [(.int .i64 0), (.sl 0 true []), (.sl 0 true [])] [(0, (1, (.t 26))), (1, (1, (.t 31))), (2, (1, (.t 36)))]), 4, none⟩, ⟨(some 9), (.alloc (.agg [(.int .i64 0), (.sl 0 true []), (.sl 0 true [])])), 4, none⟩, ⟨none, (.store 3 (.t 9) (.t 37)), 5, none⟩] (some [[], [0], [], [2], [], [3, 4, 2], [5, 3, 4, 2], [], [7], [], [8, 9, 7], [10, 6, 8, 9, 7, 5, 3, 4, 2], [1, 6, 11, 0, 5, 3, 4, 2, 10, 8, 9, 7], [], [13, 12, 11, 0, 1, 2, 3, 4, 5, 6, 7, 8, 9, 10]])) (.seq (.seq (.reg [⟨(some 38), (.mv (.t 2)), 0, none⟩, ⟨(some 39), (.faddr 1 (.t 3)), 0, none⟩, ⟨(some 40), (.load false [(.sl 1)] (.t 39)), 0, none⟩, ⟨(some 41), (.mv (.t 8)), 0, none⟩, ⟨(some 42), (.slc 1 (.t 40) (some (.t 41)) none none), 0, none⟩, ⟨(some 43), (.faddr 2 (.t 3)), 0, none⟩, ⟨(some 44), (.load false [(.sl 1)] (.t 43)), 0, none⟩, ⟨(some 45), (.mv (.t 8)), 0, none⟩, ⟨(some 46), (.slc 1 (.t 44) (some (.t 45)) none none), 0, none⟩, ⟨(some 47), (.call (.t 38) [(.t 9), (.t 42), (.t 46)]), 0, none⟩, ⟨(some 10), (.mv (.t 47)), 2, none⟩] (some [[], [], [1], [], [2, 3, 1], [], [5], [], [6, 7, 5], [0, 4, 8, 2, 3, 1, 6, 7, 5], [9, 0, 1, 2, 3, 4, 5, 6, 7, 8]])) (.seq (.reg [⟨(some 48), (.mv (.t 10)), 0, none⟩, ⟨(some 49), (.bin .num .neq (.t 48) (.c (.int .i64 0))), 0, none⟩] none) (.cond (.t 49) (.seq (.reg [⟨(some 50), (.build [(.int .i64 0), (.sl 0 true []), (.sl 0 true [])] []), 0, none⟩, ⟨(some 51), (.mv (.t 10)), 0, none⟩, ⟨none, (.store 3 (.t 6) (.t 50)), 0, none⟩, ⟨(some 7), (.mv (.t 51)), 0, none⟩] none) .ret) .skip))) (.seq (.seq (.reg [⟨(some 53), (.faddr 1 (.t 9)), 0, none⟩, ⟨(some 54), (.load false [(.sl 1)] (.t 53)), 0, none⟩, ⟨(some 55), (.call (.c (.fn 73)) [(.t 54)]), 0, none⟩, ⟨(some 52), (.mv (.t 55)), 2, none⟩, ⟨(some 56), (.extract (.t 52) 0), 2, none⟩, ⟨(some 57), (.extract (.t 52) 1), 2, none⟩, ⟨(some 11), (.mv (.t 56)), 2, none⟩, ⟨(some 12), (.mv (.t 57)), 2, none⟩] none) (.seq (.reg [⟨(some 58), (.mv (.t 12)), 0, none⟩, ⟨(some 59), (.bin .num .neq (.t 58) (.c (.int .i64 0))), 0, none⟩] none) (.cond (.t 59) (.seq (.reg [⟨(some 60), (.build [(.int .i64 0), (.sl 0 true []), (.sl 0 true [])] []), 0, none⟩, ⟨(some 61), (.mv (.t 12)), 0, none⟩, ⟨none, (.store 3 (.t 6) (.t 60)), 0, none⟩, ⟨(some 7), (.mv (.t 61)), 0, none⟩] none) .ret) .skip))) (.seq (.reg [⟨(some 62), (.load true [(.int .i64), (.sl 1), (.sl 1)] (.t 9)), 0, none⟩, ⟨none, (.store 3 (.t 6) (.t 62)), 0, none⟩, ⟨(some 7), (.mv (.c (.int .i64 0))), 0, none⟩] none) .ret))))))))
def rs_zwind : List IRes := [(.cell true 3 6), (.tmp 7)]
abbrev nt_zwind : Nat := 63
def T_zwind : Tab := tab [(76, .pure pre_v1 val_formed), (74, .own pre_copyz val_copyz), (73, .pure pre_size val_size), (101, .own (pre_c1z 1) (val_c1z windC))]
theorem zwind_s {r : AV × List AObj × List AObj} (o : Int) (d s : List Int) (t u : Bool) (k : Int) (h : (pre_v1 [(.agg [(.int .i64 o), (.sl 1 t (nums d)), (.sl 1 u (nums s))])]) = true ∧ (if (!formB (PV.agg [PV.int .i64 o, PV.sl 1 t (nums d), PV.sl 1 u (nums s)]).vD (PV.agg [PV.int .i64 o, PV.sl 1 t (nums d), PV.sl 1 u (nums s)]).vS) = true then ((.pv (.tup [(.agg [(.int .i64 0), (.sl 0 true []), (.sl 0 true [])]), (.int .i64 1)])), ([(.box [(.pv (.int .i64 k))])], [])) = r else (if (decide (IntKind.i64.wrap ((↑(nums d).length : Int) - 1) < 0)) = true then ((.pv (.tup [(.agg [(.int .i64 0), (.sl 0 true []), (.sl 0 true [])]), (.int .i64 13)])), ([(.box [(.pv (.int .i64 k))])], [])) = r else ((true && decide (0 ≤ IntKind.i64.wrap ((↑(nums d).length : Int) - 1)) && ((nums d).isEmpty || 1 == 1) && decide (0 ≤ (IntKind.i64.wrap ((↑(nums d).length : Int) - 1)).toNat) && decide ((IntKind.i64.wrap ((↑(nums d).length : Int) - 1)).toNat ≤ (nums d).length)) = true ∧ (pre_copyz [(.pv (.sl 1 (t && decide ((IntKind.i64.wrap ((↑(nums d).length : Int) - 1)).toNat = (nums d).length)) (List.drop 0 (List.take (IntKind.i64.wrap ((↑(nums d).length : Int) - 1)).toNat (nums d)))))] []) = true ∧ (true && decide (0 ≤ IntKind.i64.wrap ((↑(nums d).length : Int) - 1)) && ((nums s).isEmpty || 1 == 1) && decide (0 ≤ (IntKind.i64.wrap ((↑(nums d).length : Int) - 1)).toNat) && decide ((IntKind.i64.wrap ((↑(nums d).length : Int) - 1)).toNat ≤ (nums s).length)) = true ∧ (pre_copyz [(.pv (.sl 1 (u && decide ((IntKind.i64.wrap ((↑(nums d).length : Int) - 1)).toNat = (nums s).length)) (List.drop 0 (List.take (IntKind.i64.wrap ((↑(nums d).length : Int) - 1)).toNat (nums s)))))] []) = true ∧ (decide (0 ≤ IntKind.i64.wrap ((↑(nums d).length : Int) - 1)) && true && ((nums d).isEmpty || 1 == 1) && decide ((IntKind.i64.wrap ((↑(nums d).length : Int) - 1)).toNat ≤ (nums d).length) && decide ((nums d).length ≤ (nums d).length)) = true ∧ (decide (0 ≤ IntKind.i64.wrap ((↑(nums d).length : Int) - 1)) && true && ((nums s).isEmpty || 1 == 1) && decide ((IntKind.i64.wrap ((↑(nums d).length : Int) - 1)).toNat ≤ (nums s).length) && decide ((nums s).length ≤ (nums s).length)) = true ∧ (pre_c1z 1 [(.ptr 0 0), (.pv (.sl 1 (t && decide ((nums d).length = (nums d).length)) (List.drop (IntKind.i64.wrap ((↑(nums d).length : Int) - 1)).toNat (List.take (nums d).length (nums d))))), (.pv (.sl 1 (u && decide ((nums s).length = (nums s).length)) (List.drop (IntKind.i64.wrap ((↑(nums d).length : Int) - 1)).toNat (List.take (nums s).length (nums s))))), (.ptr 1 0)] [(.box [(.pv (.int .i64 o)), (.pv (.sl 1 true [])), (.pv (.sl 1 true []))]), (.box [(.pv (.int .i64 k))])]) = true ∧ (if (errC windC (caOf o [] [] (List.drop (IntKind.i64.wrap ((↑(nums d).length : Int) - 1)).toNat (List.take (nums d).length (nums d))) (List.drop (IntKind.i64.wrap ((↑(nums d).length : Int) - 1)).toNat (List.take (nums s).length (nums s))) k) != 0) = true then ((.pv (.tup [(.agg [(.int .i64 0), (.sl 0 true []), (.sl 0 true [])]), (.int .i64 (errC windC (caOf o [] [] (List.drop (IntKind.i64.wrap ((↑(nums d).length : Int) - 1)).toNat (List.take (nums d).length (nums d))) (List.drop (IntKind.i64.wrap ((↑(nums d).length : Int) - 1)).toNat (List.take (nums s).length (nums s))) k)))])), ([(.box [(.pv (.int .i64 k))])], [])) = r else ((pre_size [(.sl 1 ((dimC windC (caOf o [] [] (List.drop (IntKind.i64.wrap ((↑(nums d).length : Int) - 1)).toNat (List.take (nums d).length (nums d))) (List.drop (IntKind.i64.wrap ((↑(nums d).length : Int) - 1)).toNat (List.take (nums s).length (nums s))) k)).isEmpty) (nums (dimC windC (caOf o [] [] (List.drop (IntKind.i64.wrap ((↑(nums d).length : Int) - 1)).toNat (List.take (nums d).length (nums d))) (List.drop (IntKind.i64.wrap ((↑(nums d).length : Int) - 1)).toNat (List.take (nums s).length (nums s))) k))))]) = true ∧ (if ((sizeB (List.map PV.asInt (nums (dimC windC (caOf o [] [] (List.drop (IntKind.i64.wrap ((↑(nums d).length : Int) - 1)).toNat (List.take (nums d).length (nums d))) (List.drop (IntKind.i64.wrap ((↑(nums d).length : Int) - 1)).toNat (List.take (nums s).length (nums s))) k))))).snd != 0) = true then ((.pv (.tup [(.agg [(.int .i64 0), (.sl 0 true []), (.sl 0 true [])]), (.int .i64 ((sizeB (List.map PV.asInt (nums (dimC windC (caOf o [] [] (List.drop (IntKind.i64.wrap ((↑(nums d).length : Int) - 1)).toNat (List.take (nums d).length (nums d))) (List.drop (IntKind.i64.wrap ((↑(nums d).length : Int) - 1)).toNat (List.take (nums s).length (nums s))) k))))).snd))])), ([(.box [(.pv (.int .i64 k))])], [])) = r else (((.pv (.tup [(.agg [(.int .i64 (offC windC (caOf o [] [] (List.drop (IntKind.i64.wrap ((↑(nums d).length : Int) - 1)).toNat (List.take (nums d).length (nums d))) (List.drop (IntKind.i64.wrap ((↑(nums d).length : Int) - 1)).toNat (List.take (nums s).length (nums s))) k))), (.sl 1 ((dimC windC (caOf o [] [] (List.drop (IntKind.i64.wrap ((↑(nums d).length : Int) - 1)).toNat (List.take (nums d).length (nums d))) (List.drop (IntKind.i64.wrap ((↑(nums d).length : Int) - 1)).toNat (List.take (nums s).length (nums s))) k)).isEmpty) (nums (dimC windC (caOf o [] [] (List.drop (IntKind.i64.wrap ((↑(nums d).length : Int) - 1)).toNat (List.take (nums d).length (nums d))) (List.drop (IntKind.i64.wrap ((↑(nums d).length : Int) - 1)).toNat (List.take (nums s).length (nums s))) k)))), (.sl 1 ((strC windC (caOf o [] [] (List.drop (IntKind.i64.wrap ((↑(nums d).length : Int) - 1)).toNat (List.take (nums d).length (nums d))) (List.drop (IntKind.i64.wrap ((↑(nums d).length : Int) - 1)).toNat (List.take (nums s).length (nums s))) k)).isEmpty) (nums (strC windC (caOf o [] [] (List.drop (IntKind.i64.wrap ((↑(nums d).length : Int) - 1)).toNat (List.take (nums d).length (nums d))) (List.drop (IntKind.i64.wrap ((↑(nums d).length : Int) - 1)).toNat (List.take (nums s).length (nums s))) k))))]), (.int .i64 0)])), ([(.box [(.pv (.int .i64 k))])], [])) = r)))))))) : Gets T_zwind 1 (fun st => finF 1 st rs_zwind = some r) ic_zwind [] (st0O 63 [.pv (.agg [.int .i64 o, .sl 1 t (nums d), .sl 1 u (nums s)]), .pv (.int .i64 1), .fn 101 [] [.ptr 0 0]] [.box [.pv (.int .i64 k)]]) := Gets.wf (.req (.ask (.nil) (.lit (.lit (.ask (.nil) (.req (.req (.req (.req (.req (.req (.req (.lit (.ask (.nil) (.req (.lit (.ask (.nil) (.nil)))))))))))))))))) h (by kernel_rfl)
def ic_ztran : IC := (.seq (.reg [⟨(some 3), (.box 3 (.t 0)), 0, none⟩, ⟨(some 6), (.alloc (.agg [(.int .i64 0), (.sl 0 true []), (.sl 0 true [])])), 1, none⟩, ⟨(some 7), (.mv (.c (.int .i64 0))), 2, none⟩] none) (.seq (.seq (.reg [⟨(some 13), (.load true [(.int .i64), (.sl 1), (.sl 1)] (.t 3)), 0, none⟩, ⟨(some 14), (.call (.c (.fn 76)) [(.t 13)]), 0, none⟩, ⟨(some 15), (.un .not (.t 14)), 2, none⟩] none) (.cond (.t 15) (.seq (.reg [⟨(some 16), (.build [(.int .i64 0), (.sl 0 true []), (.sl 0 true [])] []), 0, none⟩, ⟨none, (.store 3 (.t 6) (.t 16)), 0, none⟩, ⟨(some 7), (.mv (.c (.int .i64 1))), 0, none⟩] none) .ret) .skip)) (.seq (.reg [⟨(some 17), (.faddr 1 (.t 3)), 0, none⟩, ⟨(some 18), (.load false [(.sl 1)] (.t 17)), 0, none⟩, ⟨(some 19), (.len 1 (.t 18)), 0, none⟩, ⟨(some 20), (.mv (.t 1)), 0, none⟩, ⟨(some 21), (.bin .num .sub (.t 19) (.t 20)), 0, none⟩, ⟨(some 8), (.mv (.t 21)), 0, none⟩] none) (.seq (.seq (.reg [⟨(some 22), (.mv (.t 8)), 0, none⟩, ⟨(some 23), (.bin .num .lss (.t 22) (.c (.int .i64 0))), 0, none⟩] none) (.cond (.t 23) (.seq (.reg [⟨(some 24), (.build [(.int .i64 0), (.sl 0 true []), (.sl 0 true [])] []), 0, none⟩, ⟨none, (.store 3 (.t 6) (.t 24)), 0, none⟩, ⟨(some 7), (.mv (.c (.int .i64 13))), 0, none⟩] none) .ret) .skip)) (.seq (.reg [⟨(some 25), (.faddr 0 (.t 3)), 0, none⟩, ⟨(some 26), (.load false [(.int .i64)] (.t 25)), 0, none⟩, ⟨(some 27), (.faddr 1 (.t 3)), 0, none⟩, ⟨(some 28), (.load false [(.sl 1)] (.t 27)), 0, none⟩, ⟨(some 29), (.mv (.t 8)), 0, none⟩, ⟨(some 30), (.slc 1 (.t 28) none (some (.t 29)) none), 0, none⟩, ⟨(some 31), (.call (.c (.fn 74)) [(.t 30)]), 0, none⟩, ⟨(some 32), (.faddr 2 (.t 3)), 2, none⟩, ⟨(some 33), (.load false [(.sl 1)] (.t 32)), 2, none⟩, ⟨(some 34), (.mv (.t 8)), 2, none⟩, ⟨(some 35), (.slc 1 (.t 33) none (some (.t 34)) none), 2, none⟩, ⟨(some 36), (.call (.c (.fn 74)) [(.t 35)]), 2, none⟩, ⟨(some 37), (.build [(.int .i64 0), (.sl 0 true []), (.sl 0 true [])] [(0, (1, (.t 26))), (1, (1, (.t 31))), (2, (1, (.t 36)))]), 4, none⟩, ⟨(some 9), (.alloc (.agg [(.int .i64 0), (.sl 0 true []), (.sl 0 true [])])), 4, none⟩, ⟨none, (.store 3 (.t 9) (.t 37)), 5, none⟩] (some [[], [0], [], [2], [], [3, 4, 2], [5, 3, 4, 2], [], [7], [], [8, 9, 7], [10, 6, 8, 9, 7, 5, 3, 4, 2], [1, 6, 11, 0, 5, 3, 4, 2, 10, 8, 9, 7], [], [13, 12, 11, 0, 1, 2, 3, 4, 5, 6, 7, 8, 9, 10]])) (.seq (.seq (.reg [⟨(some 38), (.mv (.t 2)), 0, none⟩, ⟨(some 39), (.faddr 1 (.t 3)), 0, none⟩, ⟨(some 40), (.load false [(.sl 1)] (.t 39)), 0, none⟩, ⟨(some 41), (.mv (.t 8)), 0, none⟩, ⟨(some 42), (.slc 1 (.t 40) (some (.t 41)) none none), 0, none⟩, ⟨(some 43), (.faddr 2 (.t 3)), 0, none⟩, ⟨(some 44), (.load false [(.sl 1)] (.t 43)), 0, none⟩, ⟨(some 45), (.mv (.t 8)), 0, none⟩, ⟨(some 46), (.slc 1 (.t 44) (some (.t 45)) none none), 0, none⟩, ⟨(some 47), (.call (.t 38) [(.t 9), (.t 42), (.t 46)]), 0, none⟩, ⟨(some 10), (.mv (.t 47)), 2, none⟩] (some [[], [], [1], [], [2, 3, 1], [], [5], [], [6, 7, 5], [0, 4, 8, 2, 3, 1, 6, 7, 5], [9, 0, 1, 2, 3, 4, 5, 6, 7, 8]])) (.seq (.reg [⟨(some 48), (.mv (.t 10)), 0, none⟩, ⟨(some 49), (.bin .num .neq (.t 48) (.c (.int .i64 0))), 0, none⟩] none) (.cond (.t 49) (.seq (.reg [⟨(some 50), (.build [(.int .i64 0), (.sl 0 true []), (.sl 0 true [])] []), 0, none⟩, ⟨(some 51), (.mv (.t 10)), 0, none⟩, ⟨none, (.store 3 (.t 6) (.t 50)), 0, none⟩, ⟨(some 7), (.mv (.t 51)), 0, none⟩] none) .ret) .skip))) (.seq (.seq (.reg [⟨(some 53), (.faddr 1 (.t 9)), 0, none⟩, ⟨(some 54), (.load false [(.sl 1)] (.t 53)), 0, none⟩, ⟨(some 55), (.call (.c (.fn 73)) [(.t 54)]), 0, none⟩, ⟨(some 52), (.mv (.t 55)), 2, none⟩, ⟨(some 56), (.extract (.t 52) 0), 2, none⟩, ⟨(some 57), (.extract (.t 52) 1), 2, none⟩, ⟨(some 11), (.mv (.t 56)), 2, none⟩, ⟨(some 12), (.mv (.t 57)), 2, none⟩] none) (.seq (.reg [⟨(some 58), (.mv (.t 12)), 0, none⟩, ⟨(some 59), (.bin .num .neq (.t 58) (.c (.int .i64 0))), 0, none⟩] none) (.cond (.t 59) (.seq (.reg [⟨(some 60), (.build [(.int .i64 0), (.sl 0 true []), (.sl 0 true [])] []), 0, none⟩, ⟨(some 61), (.mv (.t 12)), 0, none⟩, ⟨none, (.store 3 (.t 6) (.t 60)), 0, none⟩, ⟨(some 7), (.mv (.t 61)), 0, none⟩] none) .ret) .skip))) (.seq (.reg [⟨(some 62), (.load true [(.int .i64), (.sl 1), (.sl 1)] (.t 9)), 0, none⟩, ⟨none, (.store 3 (.t 6) (.t 62)), 0, none⟩, ⟨(some 7), (.mv (.c (.int .i64 0))), 0, none⟩] none) .ret))))))))
def rs_ztran : List IRes := [(.cell true 3 6), (.tmp 7)]
abbrev nt_ztran : Nat := 63
def T_ztran : Tab := tab [(76, .pure pre_v1 val_formed), (74, .own pre_copyz val_copyz), (73, .pure pre_size val_size), (90, .own (pre_c0z 2) (val_c0z tranC))]
theorem ztran_s {r : AV × List AObj × List AObj} (o : Int) (d s : List Int) (t u : Bool) (h : (pre_v1 [(.agg [(.int .i64 o), (.sl 1 t (nums d)), (.sl 1 u (nums s))])]) = true ∧ (if (!formB (PV.agg [PV.int .i64 o, PV.sl 1 t (nums d), PV.sl 1 u (nums s)]).vD (PV.agg [PV.int .i64 o, PV.sl 1 t (nums d), PV.sl 1 u (nums s)]).vS) = true then ((.pv (.tup [(.agg [(.int .i64 0), (.sl 0 true []), (.sl 0 true [])]), (.int .i64 1)])), ([], [])) = r else (if (decide (IntKind.i64.wrap ((↑(nums d).length : Int) - 2) < 0)) = true then ((.pv (.tup [(.agg [(.int .i64 0), (.sl 0 true []), (.sl 0 true [])]), (.int .i64 13)])), ([], [])) = r else ((true && decide (0 ≤ IntKind.i64.wrap ((↑(nums d).length : Int) - 2)) && ((nums d).isEmpty || 1 == 1) && decide (0 ≤ (IntKind.i64.wrap ((↑(nums d).length : Int) - 2)).toNat) && decide ((IntKind.i64.wrap ((↑(nums d).length : Int) - 2)).toNat ≤ (nums d).length)) = true ∧ (pre_copyz [(.pv (.sl 1 (t && decide ((IntKind.i64.wrap ((↑(nums d).length : Int) - 2)).toNat = (nums d).length)) (List.drop 0 (List.take (IntKind.i64.wrap ((↑(nums d).length : Int) - 2)).toNat (nums d)))))] []) = true ∧ (true && decide (0 ≤ IntKind.i64.wrap ((↑(nums d).length : Int) - 2)) && ((nums s).isEmpty || 1 == 1) && decide (0 ≤ (IntKind.i64.wrap ((↑(nums d).length : Int) - 2)).toNat) && decide ((IntKind.i64.wrap ((↑(nums d).length : Int) - 2)).toNat ≤ (nums s).length)) = true ∧ (pre_copyz [(.pv (.sl 1 (u && decide ((IntKind.i64.wrap ((↑(nums d).length : Int) - 2)).toNat = (nums s).length)) (List.drop 0 (List.take (IntKind.i64.wrap ((↑(nums d).length : Int) - 2)).toNat (nums s)))))] []) = true ∧ (decide (0 ≤ IntKind.i64.wrap ((↑(nums d).length : Int) - 2)) && true && ((nums d).isEmpty || 1 == 1) && decide ((IntKind.i64.wrap ((↑(nums d).length : Int) - 2)).toNat ≤ (nums d).length) && decide ((nums d).length ≤ (nums d).length)) = true ∧ (decide (0 ≤ IntKind.i64.wrap ((↑(nums d).length : Int) - 2)) && true && ((nums s).isEmpty || 1 == 1) && decide ((IntKind.i64.wrap ((↑(nums d).length : Int) - 2)).toNat ≤ (nums s).length) && decide ((nums s).length ≤ (nums s).length)) = true ∧ (pre_c0z 2 [(.ptr 0 0), (.pv (.sl 1 (t && decide ((nums d).length = (nums d).length)) (List.drop (IntKind.i64.wrap ((↑(nums d).length : Int) - 2)).toNat (List.take (nums d).length (nums d))))), (.pv (.sl 1 (u && decide ((nums s).length = (nums s).length)) (List.drop (IntKind.i64.wrap ((↑(nums d).length : Int) - 2)).toNat (List.take (nums s).length (nums s)))))] [(.box [(.pv (.int .i64 o)), (.pv (.sl 1 true [])), (.pv (.sl 1 true []))])]) = true ∧ (if ((sizeB (List.map PV.asInt (nums (dimC tranC (caOf o [] [] (List.drop (IntKind.i64.wrap ((↑(nums d).length : Int) - 2)).toNat (List.take (nums d).length (nums d))) (List.drop (IntKind.i64.wrap ((↑(nums d).length : Int) - 2)).toNat (List.take (nums s).length (nums s))) 0))))).snd != 0) = true then ((.pv (.tup [(.agg [(.int .i64 0), (.sl 0 true []), (.sl 0 true [])]), (.int .i64 ((sizeB (List.map PV.asInt (nums (dimC tranC (caOf o [] [] (List.drop (IntKind.i64.wrap ((↑(nums d).length : Int) - 2)).toNat (List.take (nums d).length (nums d))) (List.drop (IntKind.i64.wrap ((↑(nums d).length : Int) - 2)).toNat (List.take (nums s).length (nums s))) 0))))).snd))])), ([], [])) = r else (((.pv (.tup [(.agg [(.int .i64 (offC tranC (caOf o [] [] (List.drop (IntKind.i64.wrap ((↑(nums d).length : Int) - 2)).toNat (List.take (nums d).length (nums d))) (List.drop (IntKind.i64.wrap ((↑(nums d).length : Int) - 2)).toNat (List.take (nums s).length (nums s))) 0))), (.sl 1 false [(.int .i64 (n1 (caOf o [] [] (List.drop (IntKind.i64.wrap ((↑(nums d).length : Int) - 2)).toNat (List.take (nums d).length (nums d))) (List.drop (IntKind.i64.wrap ((↑(nums d).length : Int) - 2)).toNat (List.take (nums s).length (nums s))) 0))), (.int .i64 (n0 (caOf o [] [] (List.drop (IntKind.i64.wrap ((↑(nums d).length : Int) - 2)).toNat (List.take (nums d).length (nums d))) (List.drop (IntKind.i64.wrap ((↑(nums d).length : Int) - 2)).toNat (List.take (nums s).length (nums s))) 0)))]), (.sl 1 false [(.int .i64 (m1 (caOf o [] [] (List.drop (IntKind.i64.wrap ((↑(nums d).length : Int) - 2)).toNat (List.take (nums d).length (nums d))) (List.drop (IntKind.i64.wrap ((↑(nums d).length : Int) - 2)).toNat (List.take (nums s).length (nums s))) 0))), (.int .i64 (m0 (caOf o [] [] (List.drop (IntKind.i64.wrap ((↑(nums d).length : Int) - 2)).toNat (List.take (nums d).length (nums d))) (List.drop (IntKind.i64.wrap ((↑(nums d).length : Int) - 2)).toNat (List.take (nums s).length (nums s))) 0)))])]), (.int .i64 0)])), ([], [])) = r)))))) : Gets T_ztran 0 (fun st => finF 0 st rs_ztran = some r) ic_ztran [] (st0O 63 [.pv (.agg [.int .i64 o, .sl 1 t (nums d), .sl 1 u (nums s)]), .pv (.int .i64 2), .pv (.fn 90)] []) := Gets.wf (.req (.ask (.nil) (.lit (.lit (.ask (.nil) (.req (.req (.req (.req (.req (.req (.req (.lit (.lit (.lit (.lit (.ask (.nil) (.nil)))))))))))))))))) h (by kernel_rfl)
end Go.Pl

namespace Go.Pl
open Go.RowKit
set_option maxRecDepth 100000
def vrZ (r : VR) : PV := bif r.2 == 0 then .tup [.agg [.int .i64 r.1.1, slT r.1.2.1, slT r.1.2.2], .int .i64 r.2] else .tup [.agg [.int .i64 0, .sl 0 true [], .sl 0 true []], .int .i64 r.2]
theorem vrZ_sub {r : VR} (h : r.2 ≠ 0 → r.1 = (0, [], [])) : Sub (vrZ r) (vrP r) := by
  unfold vrZ
  cases e : r.2 == 0 with
  | true => exact .pair (.agg_cons (.refl _) (.agg_cons (slT_sub _) (.agg_cons (slT_sub _) .agg_nil))) (.refl _)
  | false =>
    have e' : r.2 ≠ 0 := by simpa using e
    have := h e'
    obtain ⟨⟨a, b, c⟩, x⟩ := r
    simp only [Prod.mk.injEq] at this
    obtain ⟨rfl, rfl, rfl⟩ := this
    exact .pair (.agg_cons (.refl _) (.agg_cons (.sl0 _ _ _) (.agg_cons (.sl0 _ _ _) .agg_nil))) (.refl _)
theorem pre_c1z_of {rk : Nat} {o k : Int} {ns ms : List Int} {t u : Bool} (h3 : ns.length = rk) (h4 : ms.length = rk) :
    pre_c1z rk [.ptr 0 0, .pv (.sl 1 t (nums ns)), .pv (.sl 1 u (nums ms)), .ptr 1 0] [.box [.pv (.int .i64 o), .pv (.sl 1 true []), .pv (.sl 1 true [])], .box [.pv (.int .i64 k)]] = true := by
  simp [pre_c1z, h3, h4]
theorem pre_c0z_of {rk : Nat} {o : Int} {ns ms : List Int} {t u : Bool} (h3 : ns.length = rk) (h4 : ms.length = rk) :
    pre_c0z rk [.ptr 0 0, .pv (.sl 1 t (nums ns)), .pv (.sl 1 u (nums ms))] [.box [.pv (.int .i64 o), .pv (.sl 1 true []), .pv (.sl 1 true [])]] = true := by
  simp [pre_c0z, h3, h4]
def pre_sz1 (g rk : Nat) : List AV → List AObj → Bool
  | [.pv p, .pv (.int .i64 r), .fn g' [] [.ptr 0 0]], [.box [.pv (.int .i64 _)]] => pre_view p && (r == rk && (g' == g && decide (p.vD.length = rk)))
  | _, _ => false
theorem st1_cases (g rk : Nat) : ∀ a o, pre_st1 g rk a o = true → pre_sn1 g rk a o = true ∨ pre_sz1 g rk a o = true := by
  intro a o h
  unfold pre_st1 at h
  split at h
  · rename_i p r g' k
    simp only [Bool.and_eq_true] at h
    by_cases e : p.vD.length = rk
    · exact .inr (by simp [pre_sz1, h, e])
    · exact .inl (by simp [pre_sn1, h, e])
  · cases h
def pre_sz0 (g rk : Nat) : List AV → List AObj → Bool
  | [.pv p, .pv (.int .i64 r), .pv (.fn g')], [] => pre_view p && (r == rk && (g' == g && decide (p.vD.length = rk)))
  | _, _ => false
theorem st0_cases (g rk : Nat) : ∀ a o, pre_st0 g rk a o = true → pre_sn0 g rk a o = true ∨ pre_sz0 g rk a o = true := by
  intro a o h
  unfold pre_st0 at h
  split at h
  · rename_i p r g'
    simp only [Bool.and_eq_true] at h
    by_cases e : p.vD.length = rk
    · exact .inr (by simp [pre_sz0, h, e])
    · exact .inl (by simp [pre_sn0, h, e])
  · cases h
theorem zwind_run : ∀ args os, pre_sz1 101 1 args os = true → ∃ p p' os' ext, Gets T_zwind os.length (fun st => finF os.length st rs_zwind = some (.pv p, os', ext)) ic_zwind [] (st0O nt_zwind args os) ∧ Sub p p' ∧ val_st1 windC 1 args os = (.pv p', os', ext) := by
  intro args os hp
  unfold pre_sz1 at hp
  split at hp
  · rename_i p r g' k
    simp only [Bool.and_eq_true, beq_iff_eq] at hp
    obtain ⟨hv, rfl, rfl, hne⟩ := hp
    obtain ⟨o, d, s, t, u, rfl, hd, hs⟩ := view_of hv
    simp only [vw_D, decide_eq_true_eq] at hne
    refine ⟨vrZ (stepB windC 1 o d s k), _, _, _, zwind_s (r := (.pv (vrZ (stepB windC 1 o d s k)), [.box [.pv (.int .i64 k)]], [])) o d s t u k ?_, vrZ_sub (stepB_err _ _ _ _ _ _), by simp only [val_st1, vw_D, vw_S, vw_O]⟩
    refine ⟨by simpa [pre_v1] using hv, ?_⟩
    simp only [vw_D, vw_S]
    cases hf : formB d s with
    | false => simp [stepB, hf, vrZ]
    | true =>
      obtain ⟨h6, hl⟩ := form_ok hf
      rw [if_neg (by simp)]
      by_cases hr : d.length < 1
      · rw [if_pos (by simp only [nums_length, decide_eq_true_eq]; rw [wrap64 (by omega) (by omega)]; omega)]
        simp [stepB, hf, vrZ, hr]
      · have hK := dm_len h6 hr
        simp only [nums_length, List.drop_zero, Int.cast_ofNat_Int] at hK ⊢
        have hK' : (IntKind.i64.wrap ((d.length : Int) - (1 : Int))) = ((d.length - 1 : Nat) : Int) := by simpa using hK
        simp only [hK', Int.toNat_natCast, nums_take, nums_drop, List.take_length, caOf, asInt_nums, addL, ← nums_append, nums_length, PV.ns]
        rw [if_neg (by simp)]
        have h0 : d.length - 1 = 0 := by omega
        have ht : List.take d.length s = s := by rw [← hl]; exact List.take_length
        rw [h0]
        simp only [List.drop_zero, List.take_zero, ht, nums_nil]
        refine ⟨by first | rfl | simp, by first | rfl | simp [pre_copyz], by first | rfl | simp, by first | rfl | simp [pre_copyz], by simp, by simp, ?_, ?_⟩
        · exact pre_c1z_of (by omega) (by omega)
        · have hc : (⟨o, [], [], d, s, k⟩ : CA) = caT 1 o d s k := by simp [caT, h0]
          simp only [List.map_nil, hc]
          cases he : errC windC (caT 1 o d s k) != 0 with
          | true =>
            have he' : errC windC (caT 1 o d s k) ≠ 0 := by simpa using he
            simp [stepB, h0, hf, vrZ, slT, hr, he, beq_eq_false_iff_ne.2 he']
          | false =>
            have he' : errC windC (caT 1 o d s k) = 0 := by simpa using he
            rw [if_neg (by simp)]
            refine ⟨by simp [pre_size], ?_⟩
            cases hz : (sizeB (dimC windC (caT 1 o d s k))).2 != 0 with
            | true =>
              have hz' : (sizeB (dimC windC (caT 1 o d s k))).2 ≠ 0 := by simpa using hz
              simp [stepB, h0, hf, vrZ, slT, hr, he', hz, beq_eq_false_iff_ne.2 hz']
            | false =>
              have hz' : (sizeB (dimC windC (caT 1 o d s k))).2 = 0 := by simpa using hz
              simp [stepB, h0, hf, vrZ, slT, vrP, hr, he', hz, nums_append, nums_take, nums_drop]
  · cases hp
theorem ztran_run : ∀ args os, pre_sz0 90 2 args os = true → ∃ p p' os' ext, Gets T_ztran os.length (fun st => finF os.length st rs_ztran = some (.pv p, os', ext)) ic_ztran [] (st0O nt_ztran args os) ∧ Sub p p' ∧ val_st0 tranC 2 args os = (.pv p', os', ext) := by
  intro args os hp
  unfold pre_sz0 at hp
  split at hp
  · rename_i p r g'
    simp only [Bool.and_eq_true, beq_iff_eq] at hp
    obtain ⟨hv, rfl, rfl, hne⟩ := hp
    obtain ⟨o, d, s, t, u, rfl, hd, hs⟩ := view_of hv
    simp only [vw_D, decide_eq_true_eq] at hne
    refine ⟨vrZ (stepB tranC 2 o d s 0), _, _, _, ztran_s (r := (.pv (vrZ (stepB tranC 2 o d s 0)), [], [])) o d s t u ?_, vrZ_sub (stepB_err _ _ _ _ _ _), by simp only [val_st0, vw_D, vw_S, vw_O]⟩
    refine ⟨by simpa [pre_v1] using hv, ?_⟩
    simp only [vw_D, vw_S]
    cases hf : formB d s with
    | false => simp [stepB, hf, vrZ]
    | true =>
      obtain ⟨h6, hl⟩ := form_ok hf
      rw [if_neg (by simp)]
      by_cases hr : d.length < 2
      · rw [if_pos (by simp only [nums_length, decide_eq_true_eq]; rw [wrap64 (by omega) (by omega)]; omega)]
        simp [stepB, hf, vrZ, hr]
      · have hK := dm_len h6 hr
        simp only [nums_length, List.drop_zero, Int.cast_ofNat_Int] at hK ⊢
        have hK' : (IntKind.i64.wrap ((d.length : Int) - (2 : Int))) = ((d.length - 2 : Nat) : Int) := by simpa using hK
        simp only [hK', Int.toNat_natCast, nums_take, nums_drop, List.take_length, caOf, asInt_nums, addL, ← nums_append, nums_length, PV.ns]
        rw [if_neg (by simp)]
        have h0 : d.length - 2 = 0 := by omega
        have ht : List.take d.length s = s := by rw [← hl]; exact List.take_length
        rw [h0]
        simp only [List.drop_zero, List.take_zero, ht, nums_nil]
        refine ⟨by first | rfl | simp, by first | rfl | simp [pre_copyz], by first | rfl | simp, by first | rfl | simp [pre_copyz], by simp, by simp, ?_, ?_⟩
        · exact pre_c0z_of (by omega) (by omega)
        · have hc : (⟨o, [], [], d, s, 0⟩ : CA) = caT 2 o d s 0 := by simp [caT, h0]
          simp only [List.map_nil, hc]
          have he' : errC tranC (caT 2 o d s 0) = 0 := rfl
          cases hz : (sizeB (dimC tranC (caT 2 o d s 0))).2 != 0 with
          | true =>
            have hz' : (sizeB (dimC tranC (caT 2 o d s 0))).2 ≠ 0 := by simpa using hz
            simp [stepB, h0, hf, vrZ, slT, hr, he', hz, beq_eq_false_iff_ne.2 hz']
          | false =>
            have hz' : (sizeB (dimC tranC (caT 2 o d s 0))).2 = 0 := by simpa using hz
            have hd1 : slT (dimC tranC (caT 2 o d s 0)) = .sl 1 false (nums (dimC tranC (caT 2 o d s 0))) := rfl
            have hs1 : slT (strC tranC (caT 2 o d s 0)) = .sl 1 false (nums (strC tranC (caT 2 o d s 0))) := rfl
            simp only [stepB, h0, hf, hr, he', hz, List.take_zero, List.nil_append, cond_true, cond_false, vrZ, decide_false, hd1, hs1]
            first | rfl | simp [hz, hz', hd1, hs1, he'] <;> rfl
  · cases hp
end Go.Pl

namespace Go.Pl
open Go.RowKit
set_option maxRecDepth 100000
def ic_wind : IC := (.seq (.reg [⟨(some 2), (.box 3 (.t 0)), 0, none⟩, ⟨(some 3), (.box 1 (.t 1)), 1, none⟩, ⟨(some 4), (.alloc (.agg [(.int .i64 0), (.sl 0 true []), (.sl 0 true [])])), 2, none⟩, ⟨(some 5), (.mv (.c (.int .i64 0))), 3, none⟩] none) (.seq (.reg [⟨(some 6), (.load true [(.int .i64), (.sl 1), (.sl 1)] (.t 2)), 0, none⟩, ⟨(some 7), (.mkfn 101 [] [(.t 3)]), 0, none⟩, ⟨(some 8), (.call (.c (.fn 87)) [(.t 6), (.c (.int .i64 1)), (.t 7)]), 0, none⟩, ⟨(some 9), (.extract (.t 8) 0), 2, none⟩, ⟨(some 10), (.extract (.t 8) 1), 2, none⟩, ⟨none, (.store 3 (.t 4) (.t 9)), 2, none⟩, ⟨(some 5), (.mv (.t 10)), 2, none⟩] none) .ret))
def rs_wind : List IRes := [(.cell true 3 4), (.tmp 5)]
abbrev nt_wind : Nat := 11
def T_wind : Tab := tab [(87, .own (pre_st1 101 1) (val_st1 windC 1))]
theorem wind_s {r : PV} (o : Int) (d s : List Int) (t u : Bool) (k : Int) (h : (pre_st1 101 1 [(.pv (.agg [(.int .i64 o), (.sl 1 t (nums d)), (.sl 1 u (nums s))])), (.pv (.int .i64 1)), (.fn 101 [] [(.ptr 0 0)])] [(.box [(.pv (.int .i64 k))])]) = true ∧ ((.tup [(.agg [(.int .i64 ((stepB windC 1 (PV.agg [PV.int .i64 o, PV.sl 1 t (nums d), PV.sl 1 u (nums s)]).vO (PV.agg [PV.int .i64 o, PV.sl 1 t (nums d), PV.sl 1 u (nums s)]).vD (PV.agg [PV.int .i64 o, PV.sl 1 t (nums d), PV.sl 1 u (nums s)]).vS k).fst.fst)), (.sl 1 false (nums (stepB windC 1 (PV.agg [PV.int .i64 o, PV.sl 1 t (nums d), PV.sl 1 u (nums s)]).vO (PV.agg [PV.int .i64 o, PV.sl 1 t (nums d), PV.sl 1 u (nums s)]).vD (PV.agg [PV.int .i64 o, PV.sl 1 t (nums d), PV.sl 1 u (nums s)]).vS k).fst.snd.fst)), (.sl 1 false (nums (stepB windC 1 (PV.agg [PV.int .i64 o, PV.sl 1 t (nums d), PV.sl 1 u (nums s)]).vO (PV.agg [PV.int .i64 o, PV.sl 1 t (nums d), PV.sl 1 u (nums s)]).vD (PV.agg [PV.int .i64 o, PV.sl 1 t (nums d), PV.sl 1 u (nums s)]).vS k).fst.snd.snd))]), (.int .i64 ((stepB windC 1 (PV.agg [PV.int .i64 o, PV.sl 1 t (nums d), PV.sl 1 u (nums s)]).vO (PV.agg [PV.int .i64 o, PV.sl 1 t (nums d), PV.sl 1 u (nums s)]).vD (PV.agg [PV.int .i64 o, PV.sl 1 t (nums d), PV.sl 1 u (nums s)]).vS k).snd))]) = r)) : Gets T_wind 0 (fun st => fin st rs_wind = some r) ic_wind [] (st0 11 [(.agg [.int .i64 o, .sl 1 t (nums d), .sl 1 u (nums s)]), .int .i64 k]) := Gets.w (.req (.nil)) h (by kernel_rfl)
def ic_tran : IC := (.seq (.reg [⟨(some 1), (.box 3 (.t 0)), 0, none⟩, ⟨(some 2), (.alloc (.agg [(.int .i64 0), (.sl 0 true []), (.sl 0 true [])])), 1, none⟩, ⟨(some 3), (.mv (.c (.int .i64 0))), 2, none⟩] none) (.seq (.reg [⟨(some 4), (.load true [(.int .i64), (.sl 1), (.sl 1)] (.t 1)), 0, none⟩, ⟨(some 5), (.call (.c (.fn 87)) [(.t 4), (.c (.int .i64 2)), (.c (.fn 90))]), 0, none⟩, ⟨(some 6), (.extract (.t 5) 0), 2, none⟩, ⟨(some 7), (.extract (.t 5) 1), 2, none⟩, ⟨none, (.store 3 (.t 2) (.t 6)), 2, none⟩, ⟨(some 3), (.mv (.t 7)), 2, none⟩] none) .ret))
def rs_tran : List IRes := [(.cell true 3 2), (.tmp 3)]
abbrev nt_tran : Nat := 8
def T_tran : Tab := tab [(87, .own (pre_st0 90 2) (val_st0 tranC 2))]
theorem tran_s {r : PV} (o : Int) (d s : List Int) (t u : Bool) (h : (pre_st0 90 2 [(.pv (.agg [(.int .i64 o), (.sl 1 t (nums d)), (.sl 1 u (nums s))])), (.pv (.int .i64 2)), (.pv (.fn 90))] []) = true ∧ ((.tup [(.agg [(.int .i64 ((stepB tranC 2 (PV.agg [PV.int .i64 o, PV.sl 1 t (nums d), PV.sl 1 u (nums s)]).vO (PV.agg [PV.int .i64 o, PV.sl 1 t (nums d), PV.sl 1 u (nums s)]).vD (PV.agg [PV.int .i64 o, PV.sl 1 t (nums d), PV.sl 1 u (nums s)]).vS 0).fst.fst)), (.sl 1 false (nums (stepB tranC 2 (PV.agg [PV.int .i64 o, PV.sl 1 t (nums d), PV.sl 1 u (nums s)]).vO (PV.agg [PV.int .i64 o, PV.sl 1 t (nums d), PV.sl 1 u (nums s)]).vD (PV.agg [PV.int .i64 o, PV.sl 1 t (nums d), PV.sl 1 u (nums s)]).vS 0).fst.snd.fst)), (.sl 1 false (nums (stepB tranC 2 (PV.agg [PV.int .i64 o, PV.sl 1 t (nums d), PV.sl 1 u (nums s)]).vO (PV.agg [PV.int .i64 o, PV.sl 1 t (nums d), PV.sl 1 u (nums s)]).vD (PV.agg [PV.int .i64 o, PV.sl 1 t (nums d), PV.sl 1 u (nums s)]).vS 0).fst.snd.snd))]), (.int .i64 ((stepB tranC 2 (PV.agg [PV.int .i64 o, PV.sl 1 t (nums d), PV.sl 1 u (nums s)]).vO (PV.agg [PV.int .i64 o, PV.sl 1 t (nums d), PV.sl 1 u (nums s)]).vD (PV.agg [PV.int .i64 o, PV.sl 1 t (nums d), PV.sl 1 u (nums s)]).vS 0).snd))]) = r)) : Gets T_tran 0 (fun st => fin st rs_tran = some r) ic_tran [] (st0 8 [(.agg [.int .i64 o, .sl 1 t (nums d), .sl 1 u (nums s)])]) := Gets.w (.req (.nil)) h (by kernel_rfl)
end Go.Pl

namespace Go.Pl
open Go.RowKit
set_option maxRecDepth 100000
def val_sv1 (f : Chg) (rk : Nat) : List PV → PV
  | [p, .int _ k] => vrP (stepB f rk p.vO p.vD p.vS k)
  | _ => .nilp
def pre_sv1 : List PV → Bool
  | [p, .int .i64 _] => pre_view p
  | _ => false
def val_sv0 (f : Chg) (rk : Nat) : List PV → PV
  | [p] => vrP (stepB f rk p.vO p.vD p.vS 0)
  | _ => .nilp
theorem wind_run : ∀ ps, pre_sv1 ps = true → Gets T_wind 0 (fun st => fin st rs_wind = some (val_sv1 windC 1 ps)) ic_wind [] (st0 nt_wind ps) := by
  intro ps hp
  unfold pre_sv1 at hp
  split at hp
  · rename_i p k
    obtain ⟨o, d, s, t, u, rfl, hd, hs⟩ := view_of hp
    exact wind_s o d s t u k ⟨by simpa [pre_st1] using hp, rfl⟩
  · cases hp
theorem tran_run : ∀ ps, pre_v1 ps = true → Gets T_tran 0 (fun st => fin st rs_tran = some (val_sv0 tranC 2 ps)) ic_tran [] (st0 nt_tran ps) := by
  intro ps hp
  unfold pre_v1 at hp
  split at hp
  · rename_i p
    obtain ⟨o, d, s, t, u, rfl, hd, hs⟩ := view_of hp
    exact tran_s o d s t u ⟨by simpa [pre_st0] using hp, rfl⟩
  · cases hp
end Go.Pl

namespace Go.Pl
open Go.RowKit
set_option maxRecDepth 100000
end Go.Pl

namespace Go.Pl
open Go.RowKit
set_option maxRecDepth 100000
def chgOf (q : Int) : Chg × Nat :=
  if q = 1 then (takeC, 1) else if q = 2 then (dropC, 1) else if q = 3 then (revC, 1) else if q = 4 then (tranC, 2) else if q = 5 then (diagC, 2) else if q = 6 then (windC, 1) else (chunkC, 1)
def doB (q k o : Int) (d s : List Int) : VR := stepB (chgOf q).1 (chgOf q).2 o d s k
def PV.xQ (p : PV) : Int := (p.fld 0).asInt
def PV.xK (p : PV) : Int := (p.fld 1).asInt
def errP (e : Int) : PV := .tup [.agg [.int .i64 0, .sl 0 true [], .sl 0 true []], .int .i64 e]
theorem errP_sub (e : Int) : Sub (errP e) (vrP ((0, [], []), e)) := .pair (.agg_cons (.refl _) (.agg_cons (.sl0 _ _ _) (.agg_cons (.sl0 _ _ _) .agg_nil))) (.refl _)
end Go.Pl

namespace Go.Pl
open Go.RowKit
def oset (o : Int) (d s : List Int) (n : Nat) : List Int := (List.range n).map fun (k : Nat) => (atB o d s (idxR d (k : Int)).2).1
theorem oset_length (o : Int) (d s : List Int) (n : Nat) : (oset o d s n).length = n := by simp [oset]
theorem oset_succ (o : Int) (d s : List Int) (n : Nat) : oset o d s (n + 1) = oset o d s n ++ [(atB o d s (idxR d (n : Int)).2).1] := by simp [oset, List.range_succ]
theorem oset_zero (o : Int) (d s : List Int) : oset o d s 0 = [] := rfl
def offsB (o : Int) (d s : List Int) : List Int := bif formB d s then oset o d s (sizeB d).1.toNat else []
def val_offs : List PV → PV
  | [p] => .sl 1 false (nums (offsB p.vO p.vD p.vS))
  | _ => .nilp
theorem size_nonneg {d : List Int} : 0 ≤ (sizeB d).1 := by
  unfold sizeB
  by_cases h6 : 6 < d.length
  · simp [h6]
  · cases ha : d.all dimB with
    | false => simp [h6]
    | true =>
      cases hz : d.any (· == 0) with
      | true => simp [h6]
      | false =>
        have key : ∀ (l : List Int) (p n : Int), l.all dimB = true → 0 ≤ p → prodB p l = some n → 0 ≤ n := by
          intro l
          induction l with
          | nil => intro p n _ hp h; simp [prodB] at h; omega
          | cons x l ih =>
            intro p n hl hp h
            simp only [List.all_cons, Bool.and_eq_true] at hl
            simp only [prodB] at h
            by_cases hb : 4096 < p * x
            · simp [hb] at h
            · simp only [hb, decide_false, cond_false] at h
              refine ih _ _ hl.2 (Int.mul_nonneg hp ?_) h
              have := hl.1
              simp only [dimB, Bool.and_eq_true, decide_eq_true_eq] at this
              exact this.1
        cases hp : prodB 1 d with
        | none => simp [h6]
        | some n => have := key d 1 n ha (by omega) hp; simp [h6]; exact this
theorem size_le {d : List Int} : (sizeB d).1 ≤ 4096 := by
  unfold sizeB
  by_cases h6 : 6 < d.length
  · simp [h6]
  · cases ha : d.all dimB with
    | false => simp [h6]
    | true =>
      cases hz : d.any (· == 0) with
      | true => simp [h6]
      | false =>
        have key : ∀ (l : List Int) (p n : Int), p ≤ 4096 → prodB p l = some n → n ≤ 4096 := by
          intro l
          induction l with
          | nil => intro p n hp h; simp [prodB] at h; omega
          | cons x l ih =>
            intro p n hp h
            simp only [prodB] at h
            by_cases hb : 4096 < p * x
            · simp [hb] at h
            · simp only [hb, decide_false, cond_false] at h
              exact ih _ _ (by omega) h
        cases hp : prodB 1 d with
        | none => simp [h6]
        | some n => have := key d 1 n (by omega) hp; simp [h6]; exact this
end Go.Pl

namespace Go.Pl
open Go.RowKit
set_option maxRecDepth 100000
def ic_roffs : IC := (.seq (.reg [⟨(some 1), (.box 3 (.t 0)), 0, none⟩, ⟨(some 2), (.mv (.c (.sl 0 true []))), 1, none⟩] none) (.seq (.reg [⟨(some 3), (.mv (.c (.sl 0 true []))), 0, none⟩] none) (.seq (.seq (.reg [⟨(some 11), (.load true [(.int .i64), (.sl 1), (.sl 1)] (.t 1)), 0, none⟩, ⟨(some 12), (.call (.c (.fn 78)) [(.t 11)]), 0, none⟩, ⟨(some 13), (.bin .num .neq (.t 12) (.c (.int .i64 0))), 2, none⟩] none) (.cond (.t 13) (.seq (.reg [⟨(some 2), (.mv (.c (.sl 0 true []))), 0, none⟩] none) .ret) .skip)) (.seq (.reg [⟨(some 15), (.faddr 1 (.t 1)), 0, none⟩, ⟨(some 16), (.load false [(.sl 1)] (.t 15)), 0, none⟩, ⟨(some 17), (.call (.c (.fn 35)) [(.t 16)]), 0, none⟩, ⟨(some 14), (.mv (.t 17)), 2, none⟩, ⟨(some 18), (.extract (.t 14) 0), 2, none⟩, ⟨(some 19), (.extract (.t 14) 1), 2, none⟩, ⟨(some 4), (.mv (.t 18)), 2, none⟩, ⟨(some 5), (.mv (.t 19)), 2, none⟩] none) (.seq (.seq (.reg [⟨(some 6), (.mv (.c (.int .i64 0))), 0, none⟩] none) (.block 0 (.loop [6, 4, 1, 3] (.seq (.seq (.reg [⟨(some 20), (.mv (.t 6)), 0, none⟩, ⟨(some 21), (.mv (.t 4)), 0, none⟩, ⟨(some 22), (.bin .num .lss (.t 20) (.t 21)), 0, none⟩] none) (.cond (.t 22) .skip (.exit 0))) (.seq (.block 1 (.seq (.reg [⟨(some 26), (.faddr 1 (.t 1)), 0, none⟩, ⟨(some 27), (.load false [(.sl 1)] (.t 26)), 0, none⟩, ⟨(some 28), (.mv (.t 6)), 0, none⟩, ⟨(some 29), (.call (.c (.fn 82)) [(.t 27), (.t 28)]), 0, none⟩, ⟨(some 25), (.mv (.t 29)), 2, none⟩, ⟨(some 30), (.extract (.t 25) 0), 2, none⟩, ⟨(some 31), (.extract (.t 25) 1), 2, none⟩, ⟨(some 7), (.mv (.t 30)), 2, none⟩, ⟨(some 8), (.mv (.t 31)), 2, none⟩] none) (.seq (.reg [⟨(some 33), (.load true [(.int .i64), (.sl 1), (.sl 1)] (.t 1)), 0, none⟩, ⟨(some 34), (.mv (.t 7)), 0, none⟩, ⟨(some 35), (.call (.c (.fn 25)) [(.t 33), (.t 34)]), 0, none⟩, ⟨(some 32), (.mv (.t 35)), 2, none⟩, ⟨(some 36), (.extract (.t 32) 0), 2, none⟩, ⟨(some 37), (.extract (.t 32) 1), 2, none⟩, ⟨(some 9), (.mv (.t 36)), 2, none⟩, ⟨(some 10), (.mv (.t 37)), 2, none⟩] none) (.reg [⟨(some 38), (.mv (.t 3)), 0, none⟩, ⟨(some 39), (.mv (.t 9)), 0, none⟩, ⟨(some 40), (.bslice 3 1 1 (.int .i64 0) [(0, (.t 39))]), 0, none⟩, ⟨(some 41), (.append 3 1 8 (.t 38) (.t 40)), 1, none⟩, ⟨(some 3), (.mv (.t 41)), 2, none⟩] none)))) (.reg [⟨(some 23), (.mv (.t 6)), 0, none⟩, ⟨(some 24), (.bin .num .add (.t 23) (.c (.int .i64 1))), 0, none⟩, ⟨(some 6), (.mv (.t 24)), 0, none⟩] none)))))) (.seq (.reg [⟨(some 42), (.mv (.t 3)), 0, none⟩, ⟨(some 2), (.mv (.t 42)), 0, none⟩] none) .ret))))))
def rs_roffs : List IRes := [(.tmp 2)]
abbrev nt_roffs : Nat := 43
def T_roffs : Tab := tab [(78, .pure pre_v1 val_form), (35, .pure pre_size val_size), (82, .pure pre_idx val_idx), (25, .pure pre_at val_at)]
theorem roffs_s {r : PV} (o : Int) (d s : List Int) (t u : Bool) (h : (pre_v1 [(.agg [(.int .i64 o), (.sl 1 t (nums d)), (.sl 1 u (nums s))])]) = true ∧ (if ((bif formB (PV.agg [PV.int .i64 o, PV.sl 1 t (nums d), PV.sl 1 u (nums s)]).vD (PV.agg [PV.int .i64 o, PV.sl 1 t (nums d), PV.sl 1 u (nums s)]).vS then (0 : Int) else 1) != 0) = true then (.sl 0 true []) = r else ((pre_size [(.sl 1 t (nums d))]) = true ∧ (At T_roffs 0 (fun st => fin st rs_roffs = some r) ic_roffs 0 43 [(1, (.ptr 0 0)), (3, (.pv (.sl 0 true []))), (4, (.pv (.int .i64 ((sizeB (List.map PV.asInt (nums d))).fst)))), (6, (.pv (.int .i64 0)))] [(.obj (.box [(.pv (.int .i64 o)), (.pv (.sl 1 t (nums d))), (.pv (.sl 1 u (nums s)))]))])))) : Gets T_roffs 0 (fun st => fin st rs_roffs = some r) ic_roffs [] (st0 43 [(.agg [.int .i64 o, .sl 1 t (nums d), .sl 1 u (nums s)])]) := Gets.w (.req (.lit (.ask (.nil) (.req (.nil))))) h (by kernel_rfl)
theorem roffs_h0a {r : PV} (o : Int) (d s : List Int) (t u : Bool) (n i : Int) (h : if (decide (i < n)) = true then (pre_idx [(.sl 1 t (nums d)), (.int .i64 i)]) = true ∧ (pre_at [(.agg [(.int .i64 o), (.sl 1 t (nums d)), (.sl 1 u (nums s))]), bif idxE (PV.sl 1 t (nums d)).ns (PV.int .i64 i).asInt != 0 then PV.sl 0 true [] else PV.sl 1 false (nums (idxR (PV.sl 1 t (nums d)).ns (PV.int .i64 i).asInt).snd)]) = true ∧ (At T_roffs 0 (fun st => fin st rs_roffs = some r) ic_roffs 0 43 [(1, (.ptr 0 0)), (3, (.row 1 1 0 1)), (4, (.pv (.int .i64 n))), (6, (.pv (.int .i64 (IntKind.i64.wrap (i + 1)))))] [(.obj (.box [(.pv (.int .i64 o)), (.pv (.sl 1 t (nums d))), (.pv (.sl 1 u (nums s)))])), (.obj (.row false 3 1 [(.int .i64 ((atB (PV.agg [PV.int .i64 o, PV.sl 1 t (nums d), PV.sl 1 u (nums s)]).vO (PV.agg [PV.int .i64 o, PV.sl 1 t (nums d), PV.sl 1 u (nums s)]).vD (PV.agg [PV.int .i64 o, PV.sl 1 t (nums d), PV.sl 1 u (nums s)]).vS (bif idxE (PV.sl 1 t (nums d)).ns (PV.int .i64 i).asInt != 0 then PV.sl 0 true [] else PV.sl 1 false (nums (idxR (PV.sl 1 t (nums d)).ns (PV.int .i64 i).asInt).snd)).ns).fst))]))]) else ((.sl 0 true []) = r)) : At T_roffs 0 (fun st => fin st rs_roffs = some r) ic_roffs 0 43 [(1, (.ptr 0 0)), (3, (.pv (.sl 0 true []))), (4, .pv (.int .i64 n)), (6, (.pv (.int .i64 i)))] [(.obj (.box [(.pv (.int .i64 o)), (.pv (.sl 1 t (nums d))), (.pv (.sl 1 u (nums s)))]))] := At.w (.lit (.ask (.req (.req (.lit (.lit (.lit (.lit (.lit (.lit (.nil))))))))) (.nil))) h (by kernel_rfl)
theorem roffs_h0b {r : PV} (o : Int) (d s : List Int) (t u : Bool) (n i : Int) (xs : List Int) (h : if (decide (i < n)) = true then (pre_idx [(.sl 1 t (nums d)), (.int .i64 i)]) = true ∧ (pre_at [(.agg [(.int .i64 o), (.sl 1 t (nums d)), (.sl 1 u (nums s))]), bif idxE (PV.sl 1 t (nums d)).ns (PV.int .i64 i).asInt != 0 then PV.sl 0 true [] else PV.sl 1 false (nums (idxR (PV.sl 1 t (nums d)).ns (PV.int .i64 i).asInt).snd)]) = true ∧ ((nums xs).length == xs.length && xs.length == xs.length && decide ((xs.length + (List.drop 0 (List.take 1 [PV.int .i64 (atB (PV.agg [PV.int .i64 o, PV.sl 1 t (nums d), PV.sl 1 u (nums s)]).vO (PV.agg [PV.int .i64 o, PV.sl 1 t (nums d), PV.sl 1 u (nums s)]).vD (PV.agg [PV.int .i64 o, PV.sl 1 t (nums d), PV.sl 1 u (nums s)]).vS (bif idxE (PV.sl 1 t (nums d)).ns (PV.int .i64 i).asInt != 0 then PV.sl 0 true [] else PV.sl 1 false (nums (idxR (PV.sl 1 t (nums d)).ns (PV.int .i64 i).asInt).snd)).ns).fst])).length) * 8 ≤ 1099511627776) && decide (xs.length + (List.drop 0 (List.take 1 [PV.int .i64 (atB (PV.agg [PV.int .i64 o, PV.sl 1 t (nums d), PV.sl 1 u (nums s)]).vO (PV.agg [PV.int .i64 o, PV.sl 1 t (nums d), PV.sl 1 u (nums s)]).vD (PV.agg [PV.int .i64 o, PV.sl 1 t (nums d), PV.sl 1 u (nums s)]).vS (bif idxE (PV.sl 1 t (nums d)).ns (PV.int .i64 i).asInt != 0 then PV.sl 0 true [] else PV.sl 1 false (nums (idxR (PV.sl 1 t (nums d)).ns (PV.int .i64 i).asInt).snd)).ns).fst])).length ≤ 1099511627776)) = true ∧ (At T_roffs 0 (fun st => fin st rs_roffs = some r) ic_roffs 0 43 [(1, (.ptr 0 0)), (3, (.row 1 (xs.length + (List.drop 0 (List.take 1 [PV.int .i64 (atB (PV.agg [PV.int .i64 o, PV.sl 1 t (nums d), PV.sl 1 u (nums s)]).vO (PV.agg [PV.int .i64 o, PV.sl 1 t (nums d), PV.sl 1 u (nums s)]).vD (PV.agg [PV.int .i64 o, PV.sl 1 t (nums d), PV.sl 1 u (nums s)]).vS (bif idxE (PV.sl 1 t (nums d)).ns (PV.int .i64 i).asInt != 0 then PV.sl 0 true [] else PV.sl 1 false (nums (idxR (PV.sl 1 t (nums d)).ns (PV.int .i64 i).asInt).snd)).ns).fst])).length) 0 (xs.length + (List.drop 0 (List.take 1 [PV.int .i64 (atB (PV.agg [PV.int .i64 o, PV.sl 1 t (nums d), PV.sl 1 u (nums s)]).vO (PV.agg [PV.int .i64 o, PV.sl 1 t (nums d), PV.sl 1 u (nums s)]).vD (PV.agg [PV.int .i64 o, PV.sl 1 t (nums d), PV.sl 1 u (nums s)]).vS (bif idxE (PV.sl 1 t (nums d)).ns (PV.int .i64 i).asInt != 0 then PV.sl 0 true [] else PV.sl 1 false (nums (idxR (PV.sl 1 t (nums d)).ns (PV.int .i64 i).asInt).snd)).ns).fst])).length))), (4, (.pv (.int .i64 n))), (6, (.pv (.int .i64 (IntKind.i64.wrap (i + 1)))))] [(.obj (.box [(.pv (.int .i64 o)), (.pv (.sl 1 t (nums d))), (.pv (.sl 1 u (nums s)))])), (.obj (.row false 3 1 (nums xs ++ List.drop 0 (List.take 1 [PV.int .i64 (atB (PV.agg [PV.int .i64 o, PV.sl 1 t (nums d), PV.sl 1 u (nums s)]).vO (PV.agg [PV.int .i64 o, PV.sl 1 t (nums d), PV.sl 1 u (nums s)]).vD (PV.agg [PV.int .i64 o, PV.sl 1 t (nums d), PV.sl 1 u (nums s)]).vS (bif idxE (PV.sl 1 t (nums d)).ns (PV.int .i64 i).asInt != 0 then PV.sl 0 true [] else PV.sl 1 false (nums (idxR (PV.sl 1 t (nums d)).ns (PV.int .i64 i).asInt).snd)).ns).fst]))))]) else (((nums xs).length == xs.length) = true ∧ ((.sl 1 false (List.drop 0 (List.take xs.length (nums xs)))) = r))) : At T_roffs 0 (fun st => fin st rs_roffs = some r) ic_roffs 0 43 [(1, (.ptr 0 0)), (3, .row 1 xs.length 0 xs.length), (4, .pv (.int .i64 n)), (6, (.pv (.int .i64 i)))] [(.obj (.box [(.pv (.int .i64 o)), (.pv (.sl 1 t (nums d))), (.pv (.sl 1 u (nums s)))])), (.obj (.row false 3 1 (nums xs)))] := At.w (.lit (.ask (.req (.req (.lit (.lit (.req (.lit (.nil))))))) (.req (.nil)))) h (by kernel_rfl)
end Go.Pl

namespace Go.Pl
open Go.RowKit
theorem idxE_lt {d s : List Int} (hf : formB d s = true) {k : Int} (h0 : 0 ≤ k) (h1 : k < (sizeB d).1) : idxE d k = 0 := by
  have hz : (sizeB d).2 = 0 := by simp only [formB, Bool.and_eq_true, beq_iff_eq] at hf; exact hf.1
  simp [idxE, hz, Int.not_lt.2 h0, Int.not_le.2 h1]
theorem roffs_loop (o : Int) (d s : List Int) (t u : Bool) (hf : formB d s = true) (N : Nat) (hN : (sizeB d).1 = (N : Int)) (hN2 : N ≤ 4096) : ∀ (m k : Nat), m + k = N →
    At T_roffs 0 (fun st => fin st rs_roffs = some (.sl 1 false (nums (oset o d s N)))) ic_roffs 0 nt_roffs [(1, (.ptr 0 0)), (3, .row 1 (oset o d s k).length 0 (oset o d s k).length), (4, .pv (.int .i64 N)), (6, (.pv (.int .i64 k)))] [(.obj (.box [(.pv (.int .i64 o)), (.pv (.sl 1 t (nums d))), (.pv (.sl 1 u (nums s)))])), (.obj (.row false 3 1 (nums (oset o d s k))))] := by
  have hl := form_ok hf
  intro m
  induction m with
  | zero =>
    intro k hk
    have : k = N := by omega
    subst this
    refine roffs_h0b o d s t u k k (oset o d s k) ?_
    rw [if_neg (by simp)]
    have ht : List.take (oset o d s k).length (nums (oset o d s k)) = nums (oset o d s k) := List.take_of_length_le (by simp)
    exact ⟨by simp, by rw [ht]; rfl⟩
  | succ m ih =>
    intro k hk
    refine roffs_h0b o d s t u N k (oset o d s k) ?_
    have he : idxE d (k : Int) = 0 := idxE_lt hf (by omega) (by omega)
    rw [if_pos (by simp; omega)]
    simp only [sl_ns, PV.asInt, he, bne_self_eq_false, cond_false, vw_O, vw_D, vw_S]
    refine ⟨by simp [pre_idx], by simp [pre_at]; exact pre_view_of o d s t u (by omega) (by omega), by simp [oset_length]; omega, ?_⟩
    have := ih (k + 1) (by omega)
    rw [next (by omega)]
    simpa [oset_succ, nums_append, nums, oset_length] using this
theorem roffs_run : ∀ ps, pre_v1 ps = true → ∃ p, Gets T_roffs 0 (fun st => fin st rs_roffs = some p) ic_roffs [] (st0 nt_roffs ps) ∧ Sub p (val_offs ps) := by
  intro ps hp
  unfold pre_v1 at hp
  split at hp
  · rename_i p
    obtain ⟨o, d, s, t, u, rfl, hd, hs⟩ := view_of hp
    simp only [val_offs, vw_O, vw_D, vw_S]
    cases hf : formB d s with
    | false =>
      exact ⟨.sl 0 true [], roffs_s o d s t u ⟨by simpa [pre_v1] using hp, by simp [hf]⟩, by simpa [offsB, hf] using Sub.sl0 0 1 true⟩
    | true =>
      obtain ⟨N, hN⟩ : ∃ N : Nat, (sizeB d).1 = N := by
        have h0 : 0 ≤ (sizeB d).1 := size_nonneg
        exact ⟨(sizeB d).1.toNat, by omega⟩
      have hN2 : N ≤ 4096 := by have := size_le (d := d); omega
      have hl := form_ok hf
      have key : ∀ r, (if N = 0 then (.sl 0 true []) = r else .sl 1 false (nums (oset o d s N)) = r) → Gets T_roffs 0 (fun st => fin st rs_roffs = some r) ic_roffs [] (st0 nt_roffs [.agg [.int .i64 o, .sl 1 t (nums d), .sl 1 u (nums s)]]) := by
        intro r hr
        refine roffs_s o d s t u ⟨by simpa [pre_v1] using hp, ?_⟩
        rw [if_neg (by simp [hf])]
        refine ⟨by simp [pre_size], ?_⟩
        simp only [asInt_nums, hN]
        refine roffs_h0a o d s t u N 0 ?_
        by_cases h0 : N = 0
        · subst h0
          rw [if_neg (by simp)]
          exact hr
        · have he : idxE d 0 = 0 := idxE_lt hf (by omega) (by omega)
          rw [if_pos (by simp; omega)]
          simp only [sl_ns, PV.asInt, he, bne_self_eq_false, cond_false, vw_O, vw_D, vw_S]
          rw [if_neg h0] at hr
          subst hr
          have := roffs_loop o d s t u hf N hN hN2 (N - 1) 1 (by omega)
          refine ⟨by simp [pre_idx], by simp [pre_at]; exact pre_view_of o d s t u (by omega) (by omega), ?_⟩
          first
            | (refine ⟨by simp, ?_⟩; simpa [oset_succ, oset_zero, nums_append, nums, oset_length, show IntKind.i64.wrap 1 = 1 from rfl] using this)
            | (simpa [oset_succ, oset_zero, nums_append, nums, oset_length, show IntKind.i64.wrap 1 = 1 from rfl] using this)
      by_cases h0 : N = 0
      · refine ⟨_, key (.sl 0 true []) (by rw [if_pos h0]), ?_⟩
        simpa [offsB, hf, hN, h0, oset_zero] using Sub.sl0 0 1 true
      · refine ⟨_, key (.sl 1 false (nums (oset o d s N))) (by rw [if_neg h0]), ?_⟩
        simpa [offsB, hf, hN] using Sub.refl _
  · cases hp
def ofB (d : List Int) : VR := bif (sizeB d).2 != 0 then ((0, [], []), (sizeB d).2) else ((0, d, strd d), 0)
def val_of2 : List PV → PV
  | [p] => vrP (ofB p.ns)
  | _ => .nilp
theorem of2_sub : ∀ ps, pre_size ps = true → Sub (val_of ps) (val_of2 ps) := by
  intro ps hp
  unfold pre_size at hp
  split at hp
  · rename_i t xs
    obtain ⟨ns, rfl⟩ := nums_of hp
    simp only [val_of, val_of2, sl_ns]
    cases h : (sizeB ns).2 != 0 with
    | true => simp only [ofB, h, cond_true]; exact errP_sub _
    | false =>
      have h' : (sizeB ns).2 = 0 := by simpa using h
      simp only [ofB, h', cond_false, vrP]
      exact .refl _
  · cases hp
end Go.Pl

namespace Go.Pl
open Go.RowKit
set_option maxRecDepth 100000
def pre_nil : List PV → Bool := fun ps => ps.isEmpty
def val_true : List PV → PV := fun _ => .bool true
def ic_awake : IC := (.seq (.reg [⟨(some 0), (.mv (.c (.bool false))), 0, none⟩] none) (.seq (.reg [⟨(some 10), (.bslice 3 1 2 (.int .i64 0) [(0, (.c (.int .i64 2))), (1, (.c (.int .i64 3)))]), 0, none⟩, ⟨(some 11), (.call (.c (.fn 22)) [(.t 10)]), 1, none⟩, ⟨(some 9), (.mv (.t 11)), 3, none⟩, ⟨(some 12), (.extract (.t 9) 0), 3, none⟩, ⟨(some 13), (.extract (.t 9) 1), 3, none⟩, ⟨(some 1), (.alloc (.agg [(.int .i64 0), (.sl 0 true []), (.sl 0 true [])])), 3, none⟩, ⟨none, (.store 3 (.t 1) (.t 12)), 4, none⟩, ⟨(some 2), (.mv (.t 13)), 4, none⟩] none) (.seq (.reg [⟨(some 15), (.load true [(.int .i64), (.sl 1), (.sl 1)] (.t 1)), 0, none⟩, ⟨(some 16), (.call (.c (.fn 37)) [(.t 15)]), 0, none⟩, ⟨(some 14), (.mv (.t 16)), 2, none⟩, ⟨(some 17), (.extract (.t 14) 0), 2, none⟩, ⟨(some 18), (.extract (.t 14) 1), 2, none⟩, ⟨(some 3), (.alloc (.agg [(.int .i64 0), (.sl 0 true []), (.sl 0 true [])])), 2, none⟩, ⟨none, (.store 3 (.t 3) (.t 17)), 3, none⟩, ⟨(some 4), (.mv (.t 18)), 3, none⟩] none) (.seq (.reg [⟨(some 20), (.bslice 3 1 1 (.int .i64 0) [(0, (.c (.int .i64 4)))]), 0, none⟩, ⟨(some 21), (.call (.c (.fn 22)) [(.t 20)]), 1, none⟩, ⟨(some 19), (.mv (.t 21)), 3, none⟩, ⟨(some 22), (.extract (.t 19) 0), 3, none⟩, ⟨(some 23), (.extract (.t 19) 1), 3, none⟩, ⟨(some 5), (.alloc (.agg [(.int .i64 0), (.sl 0 true []), (.sl 0 true [])])), 3, none⟩, ⟨none, (.store 3 (.t 5) (.t 22)), 4, none⟩, ⟨(some 6), (.mv (.t 23)), 4, none⟩] none) (.seq (.reg [⟨(some 25), (.load true [(.int .i64), (.sl 1), (.sl 1)] (.t 5)), 0, none⟩, ⟨(some 26), (.call (.c (.fn 60)) [(.t 25), (.c (.int .i64 2))]), 0, none⟩, ⟨(some 24), (.mv (.t 26)), 2, none⟩, ⟨(some 27), (.extract (.t 24) 0), 2, none⟩, ⟨(some 28), (.extract (.t 24) 1), 2, none⟩, ⟨(some 7), (.alloc (.agg [(.int .i64 0), (.sl 0 true []), (.sl 0 true [])])), 2, none⟩, ⟨none, (.store 3 (.t 7) (.t 27)), 3, none⟩, ⟨(some 8), (.mv (.t 28)), 3, none⟩] none) (.seq (.reg [⟨(some 29), (.mv (.t 2)), 0, none⟩, ⟨(some 30), (.bin .num .eql (.t 29) (.c (.int .i64 0))), 0, none⟩, ⟨(some 31), (.mv (.t 30)), 0, none⟩, ⟨(some 32), (.mv (.t 4)), 0, (some (31, true))⟩, ⟨(some 33), (.bin .num .eql (.t 32) (.c (.int .i64 0))), 0, (some (31, true))⟩, ⟨(some 34), (.pick (.t 31) (.t 33) (.c (.bool false))), 0, none⟩, ⟨(some 35), (.mv (.t 34)), 0, none⟩, ⟨(some 36), (.mv (.t 6)), 0, (some (35, true))⟩, ⟨(some 37), (.bin .num .eql (.t 36) (.c (.int .i64 0))), 0, (some (35, true))⟩, ⟨(some 38), (.pick (.t 35) (.t 37) (.c (.bool false))), 0, none⟩, ⟨(some 39), (.mv (.t 38)), 0, none⟩, ⟨(some 40), (.mv (.t 8)), 0, (some (39, true))⟩, ⟨(some 41), (.bin .num .eql (.t 40) (.c (.int .i64 0))), 0, (some (39, true))⟩, ⟨(some 42), (.pick (.t 39) (.t 41) (.c (.bool false))), 0, none⟩, ⟨(some 43), (.mv (.t 42)), 0, none⟩, ⟨(some 44), (.faddr 2 (.t 1)), 0, (some (43, true))⟩, ⟨(some 45), (.load false [(.sl 1)] (.t 44)), 0, (some (43, true))⟩, ⟨(some 46), (.bslice 3 1 2 (.int .i64 0) [(0, (.c (.int .i64 3))), (1, (.c (.int .i64 1)))]), 0, (some (43, true))⟩, ⟨(some 47), (.call (.c (.fn 29)) [(.t 45), (.t 46)]), 1, (some (43, true))⟩, ⟨(some 48), (.pick (.t 43) (.t 47) (.c (.bool false))), 3, none⟩, ⟨(some 49), (.mv (.t 48)), 3, none⟩, ⟨(some 50), (.load true [(.int .i64), (.sl 1), (.sl 1)] (.t 3)), 3, (some (49, true))⟩, ⟨(some 51), (.call (.c (.fn 30)) [(.t 50)]), 3, (some (49, true))⟩, ⟨(some 52), (.bslice 3 1 6 (.int .i64 0) [(0, (.c (.int .i64 0))), (1, (.c (.int .i64 3))), (2, (.c (.int .i64 1))), (3, (.c (.int .i64 4))), (4, (.c (.int .i64 2))), (5, (.c (.int .i64 5)))]), 5, (some (49, true))⟩, ⟨(some 53), (.call (.c (.fn 29)) [(.t 51), (.t 52)]), 6, (some (49, true))⟩, ⟨(some 54), (.pick (.t 49) (.t 53) (.c (.bool false))), 8, none⟩, ⟨(some 55), (.mv (.t 54)), 8, none⟩, ⟨(some 56), (.load true [(.int .i64), (.sl 1), (.sl 1)] (.t 7)), 8, (some (55, true))⟩, ⟨(some 57), (.call (.c (.fn 30)) [(.t 56)]), 8, (some (55, true))⟩, ⟨(some 58), (.bslice 3 1 6 (.int .i64 0) [(0, (.c (.int .i64 0))), (1, (.c (.int .i64 1))), (2, (.c (.int .i64 1))), (3, (.c (.int .i64 2))), (4, (.c (.int .i64 2))), (5, (.c (.int .i64 3)))]), 10, (some (55, true))⟩, ⟨(some 59), (.call (.c (.fn 29)) [(.t 57), (.t 58)]), 11, (some (55, true))⟩, ⟨(some 60), (.pick (.t 55) (.t 59) (.c (.bool false))), 13, none⟩, ⟨(some 61), (.mv (.t 60)), 13, none⟩, ⟨(some 62), (.load true [(.int .i64), (.sl 1), (.sl 1)] (.t 3)), 13, (some (61, true))⟩, ⟨(some 63), (.call (.c (.fn 27)) [(.c (.int .i64 6)), (.t 62)]), 13, (some (61, true))⟩, ⟨(some 64), (.pick (.t 61) (.t 63) (.c (.bool false))), 15, none⟩, ⟨(some 0), (.mv (.t 64)), 15, none⟩] none) .ret))))))
def rs_awake : List IRes := [(.tmp 0)]
abbrev nt_awake : Nat := 65
def T_awake : Tab := tab [(22, .pure pre_size val_of2), (37, .pure pre_v1 (val_sv0 tranC 2)), (60, .pure pre_sv1 (val_sv1 windC 1)), (29, .pure pre_ints val_ints), (30, .pure pre_v1 val_offs), (27, .pure pre_valid val_valid)]
theorem awake_s {r : PV}  (h : (.bool true) = r) : Gets T_awake 0 (fun st => fin st rs_awake = some r) ic_awake [] (st0 65 []) := Gets.w (.lit (.lit (.lit (.lit (.lit (.lit (.lit (.lit (.lit (.lit (.lit (.lit (.lit (.lit (.lit (.lit (.lit (.lit (.lit (.lit (.lit (.lit (.lit (.lit (.lit (.lit (.lit (.lit (.lit (.lit (.lit (.lit (.lit (.lit (.lit (.lit (.lit (.lit (.lit (.lit (.lit (.lit (.lit (.lit (.lit (.lit (.lit (.lit (.lit (.lit (.lit (.nil)))))))))))))))))))))))))))))))))))))))))))))))))))) h (by kernel_rfl)
end Go.Pl

namespace Go.Pl
open Go.RowKit
theorem awake_run : ∀ ps, pre_nil ps = true → Gets T_awake 0 (fun st => fin st rs_awake = some (val_true ps)) ic_awake [] (st0 nt_awake ps) := by
  intro ps hp
  have : ps = [] := List.isEmpty_iff.1 hp
  subst this
  exact awake_s rfl
end Go.Pl

namespace Go.Pl
open Go.RowKit
open Enc (enc dec is)
open EncL (encL decL isL)
structure View where
  o : Int
  d : List Int
  s : List Int
  deriving DecidableEq
instance : Enc View where
  sz := 3
  enc v := .agg [enc v.o, enc v.d, enc v.s]
  dec | .agg [a, b, c] => ⟨dec a, dec b, dec c⟩ | _ => ⟨0, [], []⟩
  is | .agg [a, b, c] => is Int a && is (List Int) b && is (List Int) c | _ => false
  is_enc v := by simp
  dec_enc v := by simp
  sub p h := by
    cases p with
    | agg xs =>
      match xs, h with
      | [a, b, c], h =>
        simp only [Bool.and_eq_true] at h
        exact .agg (.cons (Enc.sub a h.1.1).2 (.cons (Enc.sub b h.1.2).2 (.cons (Enc.sub c h.2).2 .nil)))
    | _ => cases h
theorem enc_view (v : View) : enc v = .agg [.int .i64 v.o, .sl 1 false (nums v.d), .sl 1 false (nums v.s)] := rfl
def vrT (r : VR) : View × Int := (⟨r.1.1, r.1.2.1, r.1.2.2⟩, r.2)
theorem vrP_enc (r : VR) : vrP r = enc (vrT r) := rfl
def vOk (v : View) : Bool := decide (v.d.length ≤ 1000000) && decide (v.s.length ≤ 1000000)
theorem vOk_pre {v : View} (h : vOk v = true) : pre_view (enc v) = true := by
  simp only [vOk, Bool.and_eq_true, decide_eq_true_eq] at h
  exact pre_view_of v.o v.d v.s false false (by omega) (by omega)
def vIn (v : View) : Bool := decide (v.d.length ≤ 9223372036854775807) && decide (v.s.length ≤ 9223372036854775807)
theorem vIn_pre {v : View} (h : vIn v = true) : pre_view (enc v) = true := by
  simp only [vIn, Bool.and_eq_true, decide_eq_true_eq] at h
  exact pre_view_of v.o v.d v.s false false h.1 h.2
theorem few_vOk {v : View} (h : fewB v.o v.d v.s = true) : vOk v = true := by
  simp only [fewB, Bool.and_eq_true, Bool.not_eq_true', decide_eq_false_iff_not] at h
  simp [vOk]; omega
def ofT (d : List Int) : View × Int := vrT (ofB d)
def offsT (v : View) : List Int := offsB v.o v.d v.s
@[simp] theorem vO_enc (v : View) : (enc v : PV).vO = v.o := rfl
@[simp] theorem vD_enc (v : View) : (enc v : PV).vD = v.d := by simp [enc_view]
@[simp] theorem vS_enc (v : View) : (enc v : PV).vS = v.s := by simp [enc_view]
theorem fits_enc {β : Type} [Enc β] (y : β) : Fits y (enc y) := ⟨Enc.is_enc y, Enc.dec_enc y⟩
end Go.Pl

namespace Go.Pl
open Go.RowKit
open Enc (enc dec is)
open EncL (encL decL isL)
structure Arr where
  e : Str
  d : List Int
  x : List Int
  deriving DecidableEq
instance : Enc Arr where
  sz := 3
  enc v := .agg [enc v.e, enc v.d, enc v.x]
  dec | .agg [a, b, c] => ⟨dec a, dec b, dec c⟩ | _ => ⟨⟨[]⟩, [], []⟩
  is | .agg [a, b, c] => is Str a && is (List Int) b && is (List Int) c | _ => false
  is_enc v := by simp
  dec_enc v := by simp
  sub p h := by
    cases p with
    | agg xs =>
      match xs, h with
      | [a, b, c], h =>
        simp only [Bool.and_eq_true] at h
        exact .agg (.cons (Enc.sub a h.1.1).2 (.cons (Enc.sub b h.1.2).2 (.cons (Enc.sub c h.2).2 .nil)))
    | _ => cases h
@[simp] theorem is_arr (a b c : PV) : is Arr (.agg [a, b, c]) = (is Str a && is (List Int) b && is (List Int) c) := rfl
@[simp] theorem dec_arr (a b c : PV) : (dec (.agg [a, b, c]) : Arr) = ⟨dec a, dec b, dec c⟩ := rfl
@[simp] theorem is_view (a b c : PV) : is View (.agg [a, b, c]) = (is Int a && is (List Int) b && is (List Int) c) := rfl
@[simp] theorem dec_view (a b c : PV) : (dec (.agg [a, b, c]) : View) = ⟨dec a, dec b, dec c⟩ := rfl
def sInt : List UInt8 := [105, 110, 116]
def sBool : List UInt8 := [98, 111, 111, 108]
def elemB (e : Str) (n : Int) : Bool := if e.s = sInt then decide (-2147483648 ≤ n) && decide (n ≤ 2147483647) else if e.s = sBool then n == 0 || n == 1 else false
def arSm (a : Arr) : Bool := decide (a.d.length ≤ 1000000) && decide (a.x.length ≤ 1000000)
def arOf (e : Str) (d x : List Int) : Arr × Int :=
  if e.s ≠ sInt ∧ e.s ≠ sBool then (⟨⟨[]⟩, [], []⟩, 12) else if (sizeB d).2 ≠ 0 then (⟨⟨[]⟩, [], []⟩, (sizeB d).2) else if (x.length : Int) ≠ (sizeB d).1 then (⟨⟨[]⟩, [], []⟩, 1) else if x.all (elemB e) then (⟨e, d, x⟩, 0) else (⟨⟨[]⟩, [], []⟩, 2)
def arVl (a : Arr) : Bool := (arOf a.e a.d a.x).2 == 0
def arFew (a : Arr) (n : Int) : Bool := decide (a.e.s.length ≤ 20) && decide (a.d.length ≤ 8) && decide ((a.x.length : Int) ≤ n)
def validT (n : Int) (v : View) : Bool := validB n v.o v.d v.s
def copyT (a : Arr) (v : View) : Arr × Int := if arVl a = true ∧ validT a.x.length v = true then (⟨a.e, v.d, (offsT v).map fun n => a.x.getD n.toNat 0⟩, 0) else (⟨⟨[]⟩, [], []⟩, 1)
def pre_el1 : List AV → List AObj → Bool
  | [.pv (.int .i64 _), .ptr 0 0], [.box [.pv (.str _)]] => true
  | _, _ => false
def val_el1 : List AV → List AObj → AV × List AObj × List AObj
  | [.pv (.int _ n), .ptr 0 0], [.box [.pv (.str e)]] => (.pv (.bool (!elemB ⟨e⟩ n)), [.box [.pv (.str e)]], [])
  | _, _ => default
def fstBad (e : Str) : List Int → Nat → Int
  | [], _ => -1
  | n :: l, k => if elemB e n then fstBad e l (k + 1) else k
def pre_elx : List AV → List AObj → Bool
  | [.pv (.sl 1 _ xs), .fn 119 [] [.ptr 0 0]], [.box [.pv (.str _)]] => xs.all (is Int) && decide (xs.length ≤ 1000000)
  | _, _ => false
def val_elx : List AV → List AObj → AV × List AObj × List AObj
  | [.pv (.sl _ _ xs), _], [.box [.pv (.str e)]] => (.pv (.int .i64 (fstBad ⟨e⟩ (xs.map dec) 0)), [.box [.pv (.str e)]], [])
  | _, _ => default
def val_elc : List AV → List AObj → AV × List AObj × List AObj
  | [.pv (.sl _ _ xs), _], [.box [.pv (.str e)]] => (.pv (.bool (decide (0 ≤ fstBad ⟨e⟩ (xs.map dec) 0))), [.box [.pv (.str e)]], [])
  | _, _ => default
end Go.Pl

namespace Go.Pl
open Go.RowKit
open Enc (enc dec is)
open EncL (encL decL isL)
set_option maxRecDepth 100000
def ic_elv : IC := (.seq (.reg [⟨(some 4), (.mv (.c (.bool false))), 0, none⟩] none) (.seq (.seq (.reg [⟨(some 5), (.mv (.t 0)), 0, none⟩] none) (.block 0 (.seq (.reg [⟨(some 7), (.bin .num .eql (.t 5) (.c (.str [105, 110, 116]))), 0, none⟩, ⟨(some 6), (.mv (.t 7)), 0, none⟩] none) (.cond (.t 6) (.seq (.reg [⟨(some 8), (.mv (.t 1)), 0, none⟩, ⟨(some 9), (.bin .num .geq (.t 8) (.c (.int .i64 (-2147483648)))), 0, none⟩, ⟨(some 10), (.mv (.t 9)), 0, none⟩, ⟨(some 11), (.mv (.t 1)), 0, (some (10, true))⟩, ⟨(some 12), (.bin .num .leq (.t 11) (.c (.int .i64 2147483647))), 0, (some (10, true))⟩, ⟨(some 13), (.pick (.t 10) (.t 12) (.c (.bool false))), 0, none⟩, ⟨(some 4), (.mv (.t 13)), 0, none⟩] none) .ret) (.seq (.reg [⟨(some 15), (.bin .num .eql (.t 5) (.c (.str [98, 111, 111, 108]))), 0, none⟩, ⟨(some 14), (.mv (.t 15)), 0, none⟩] none) (.cond (.t 14) (.seq (.reg [⟨(some 16), (.mv (.t 1)), 0, none⟩, ⟨(some 17), (.bin .num .eql (.t 16) (.c (.int .i64 0))), 0, none⟩, ⟨(some 18), (.mv (.t 17)), 0, none⟩, ⟨(some 19), (.mv (.t 1)), 0, (some (18, false))⟩, ⟨(some 20), (.bin .num .eql (.t 19) (.c (.int .i64 1))), 0, (some (18, false))⟩, ⟨(some 21), (.pick (.t 18) (.c (.bool true)) (.t 20)), 0, none⟩, ⟨(some 4), (.mv (.t 21)), 0, none⟩] none) .ret) .skip)))))) (.seq (.reg [⟨(some 4), (.mv (.c (.bool false))), 0, none⟩] none) .ret)))
def rs_elv : List IRes := [(.tmp 4)]
abbrev nt_elv : Nat := 22
def T_elv : Tab := tab []
theorem elv_s {G : PV → Prop} (e : List UInt8) (n : Int) (h : if (e == [(105 : UInt8), (110 : UInt8), (116 : UInt8)]) = true then if (decide (n ≥ (-2147483648 : Int))) = true then G ((.bool (decide (n ≤ 2147483647)))) else (G ((.bool false))) else (if (e == [(98 : UInt8), (111 : UInt8), (111 : UInt8), (108 : UInt8)]) = true then if (n == 0) = true then G ((.bool true)) else (G ((.bool (n == 1)))) else (G ((.bool false))))) : Gets T_elv 0 (endP' rs_elv G) ic_elv [] (st0 22 [.str e, .int .i64 n]) := Gets.tp (.lit (.ask (.lit (.ask (.lit (.lit (.lit (.nil)))) (.lit (.lit (.nil))))) (.lit (.ask (.lit (.ask (.lit (.lit (.nil))) (.lit (.lit (.lit (.nil)))))) (.nil))))) h (by kernel_rfl)
def ic_r17v : IC := (.seq (.reg [⟨(some 4), (.mv (.c (.bool false))), 0, none⟩] none) (.seq (.seq (.reg [⟨(some 5), (.mv (.t 0)), 0, none⟩, ⟨(some 6), (.bin .num .eql (.t 5) (.c (.str [98, 111, 111, 108]))), 0, none⟩] none) (.cond (.t 6) (.seq (.reg [⟨(some 7), (.mv (.t 1)), 0, none⟩, ⟨(some 8), (.bin .num .eql (.t 7) (.c (.int .i64 0))), 0, none⟩, ⟨(some 9), (.mv (.t 8)), 0, none⟩, ⟨(some 10), (.mv (.t 1)), 0, (some (9, false))⟩, ⟨(some 11), (.bin .num .eql (.t 10) (.c (.int .i64 1))), 0, (some (9, false))⟩, ⟨(some 12), (.pick (.t 9) (.c (.bool true)) (.t 11)), 0, none⟩, ⟨(some 4), (.mv (.t 12)), 0, none⟩] none) .ret) .skip)) (.seq (.reg [⟨(some 13), (.mv (.t 0)), 0, none⟩, ⟨(some 14), (.bin .num .eql (.t 13) (.c (.str [105, 110, 116]))), 0, none⟩, ⟨(some 15), (.mv (.t 14)), 0, none⟩, ⟨(some 16), (.mv (.t 1)), 0, (some (15, true))⟩, ⟨(some 17), (.bin .num .geq (.t 16) (.c (.int .i64 (-2147483648)))), 0, (some (15, true))⟩, ⟨(some 18), (.pick (.t 15) (.t 17) (.c (.bool false))), 0, none⟩, ⟨(some 19), (.mv (.t 18)), 0, none⟩, ⟨(some 20), (.mv (.t 1)), 0, (some (19, true))⟩, ⟨(some 21), (.bin .num .leq (.t 20) (.c (.int .i64 2147483647))), 0, (some (19, true))⟩, ⟨(some 22), (.pick (.t 19) (.t 21) (.c (.bool false))), 0, none⟩, ⟨(some 4), (.mv (.t 22)), 0, none⟩] none) .ret)))
def rs_r17v : List IRes := [(.tmp 4)]
abbrev nt_r17v : Nat := 23
def T_r17v : Tab := tab []
theorem r17v_s {G : PV → Prop} (e : List UInt8) (n : Int) (h : if (e == [(98 : UInt8), (111 : UInt8), (111 : UInt8), (108 : UInt8)]) = true then if (n == 0) = true then G ((.bool true)) else (G ((.bool (n == 1)))) else (if (e == [(105 : UInt8), (110 : UInt8), (116 : UInt8)]) = true then if (decide (n ≥ (-2147483648 : Int))) = true then G ((.bool (decide (n ≤ 2147483647)))) else (G ((.bool false))) else (G ((.bool false))))) : Gets T_r17v 0 (endP' rs_r17v G) ic_r17v [] (st0 23 [.str e, .int .i64 n]) := Gets.tp (.lit (.ask (.lit (.ask (.lit (.lit (.nil))) (.lit (.lit (.lit (.nil)))))) (.lit (.ask (.lit (.lit (.lit (.ask (.lit (.lit (.lit (.nil)))) (.lit (.lit (.nil))))))) (.lit (.lit (.lit (.lit (.lit (.nil)))))))))) h (by kernel_rfl)
def ic_el1 : IC := (.seq (.reg [⟨(some 3), (.mv (.c (.bool false))), 0, none⟩] none) (.seq (.reg [⟨(some 4), (.load false [.str] (.t 1)), 0, none⟩, ⟨(some 5), (.mv (.t 0)), 0, none⟩, ⟨(some 6), (.call (.c (.fn 120)) [(.t 4), (.t 5)]), 0, none⟩, ⟨(some 7), (.un .not (.t 6)), 2, none⟩, ⟨(some 3), (.mv (.t 7)), 2, none⟩] none) .ret))
def rs_el1 : List IRes := [(.tmp 3)]
abbrev nt_el1 : Nat := 8
def T_el1 : Tab := tab [(120, .pure (preT (fun _ : Str × Int × Unit => true)) (valT (fun x : Str × Int × Unit => elemB x.1 x.2.1)))]
theorem el1_s {G : AV × List AObj × List AObj → Prop} (e : List UInt8) (n : Int) (h : ∃ y0 : Bool, AV.pv (valT (fun (x : Str × Int × Unit) => elemB (Prod.fst x) (Prod.fst (Prod.snd x))) [(.str e), (.int .i64 n)]) = AV.pv (enc y0) ∧ (G (((.pv (.bool !y0)), ([(.box [(.pv (.str e))])], []))))) : Gets T_el1 1 (endO' 1 rs_el1 G) ic_el1 [] (st0O 8 [.pv (.int .i64 n), .ptr 0 0] [.box [.pv (.str e)]]) := Gets.to (.lit (.abs (Bool) (fun YY => AV.pv (enc YY)) (.nil))) h (by kernel_rfl)
def ic_elx : IC := (.seq (.reg [⟨(some 4), (.mv (.c (.int .i64 0))), 0, none⟩] none) (.seq (.seq (.reg [⟨(some 6), (.mv (.t 0)), 0, none⟩, ⟨(some 7), (.len 1 (.t 6)), 0, none⟩, ⟨(some 8), (.mv (.c (.int .i64 0))), 0, none⟩] none) (.block 0 (.loop [8, 7, 1, 0] (.seq (.reg [⟨(some 9), (.bin .num .lss (.t 8) (.t 7)), 0, none⟩] none) (.seq (.cond (.t 9) .skip (.exit 0)) (.seq (.block 1 (.seq (.reg [⟨(some 10), (.mv (.t 8)), 0, none⟩, ⟨(some 5), (.mv (.t 10)), 0, none⟩] none) (.seq (.reg [⟨(some 11), (.mv (.t 1)), 0, none⟩, ⟨(some 12), (.mv (.t 0)), 0, none⟩, ⟨(some 13), (.mv (.t 5)), 0, none⟩, ⟨(some 14), (.iaddr 1 (.t 12) (.t 13)), 0, none⟩, ⟨(some 15), (.load false [(.int .i64)] (.t 14)), 0, none⟩, ⟨(some 16), (.call (.t 11) [(.t 15)]), 0, none⟩] none) (.cond (.t 16) (.seq (.reg [⟨(some 17), (.mv (.t 5)), 0, none⟩, ⟨(some 4), (.mv (.t 17)), 0, none⟩] none) .ret) .skip)))) (.reg [⟨(some 18), (.bin .num .add (.t 8) (.c (.int .i64 1))), 0, none⟩, ⟨(some 8), (.mv (.t 18)), 0, none⟩] none))))))) (.seq (.reg [⟨(some 4), (.mv (.c (.int .i64 (-1)))), 0, none⟩] none) .ret)))
def rs_elx : List IRes := [(.tmp 4)]
abbrev nt_elx : Nat := 19
def T_elx : Tab := tab [(119, .own pre_el1 val_el1)]
theorem elx_s {G : AV × List AObj × List AObj → Prop} (e : List UInt8) (l : List Int) (t : Bool) (h : At T_elx 1 (endO' 1 rs_elx G) ic_elx 0 19 [(0, (.pv (.sl 1 t (List.map enc l)))), (1, (.fn 119 [] [(.ptr 0 0)])), (7, (.pv (.int .i64 (↑(List.length (List.map enc l)) : Int)))), (8, (.pv (.int .i64 0)))] [(.obj (.box [(.pv (.str e))]))]) : Gets T_elx 1 (endO' 1 rs_elx G) ic_elx [] (st0O 19 [.pv (.sl 1 t (l.map enc)), .fn 119 [] [.ptr 0 0]] [.box [.pv (.str e)]]) := Gets.to (.nil) h (by kernel_rfl)
theorem elx_h0 {G : AV × List AObj × List AObj → Prop} (e : List UInt8) (l : List Int) (t : Bool) (i : Int) (h : if (decide (i < (↑(List.length l) : Int))) = true then (decide (0 ≤ i) && decide (Int.toNat i < List.length (List.map enc l)) && 1 == 1) = true ∧ (∃ y0 : Int, AV.pv (PV.rptr (PV.cells (List.getD (List.map enc l) (Int.toNat i) default))) = AV.pv (PV.rptr (PV.cells ((enc) y0))) ∧ (if (!elemB (Str.mk e) (PV.asInt (List.getD (PV.cells (enc y0)) 0 default))) = true then G (((.pv (.int .i64 i)), ([(.box [(.pv (.str e))])], []))) else (At T_elx 1 (endO' 1 rs_elx G) ic_elx 0 19 [(0, (.pv (.sl 1 t (List.map enc l)))), (1, (.fn 119 [] [(.ptr 0 0)])), (7, (.pv (.int .i64 (↑(List.length l) : Int)))), (8, (.pv (.int .i64 (IntKind.wrap IntKind.i64 (i + 1)))))] [(.obj (.box [(.pv (.str e))]))]))) else (G (((.pv (.int .i64 (-1))), ([(.box [(.pv (.str e))])], []))))) : At T_elx 1 (endO' 1 rs_elx G) ic_elx 0 19 [(0, .pv (.sl 1 t (l.map enc))), (1, .fn 119 [] [.ptr 0 0]), (7, .pv (.int .i64 l.length)), (8, .pv (.int .i64 i))] [.obj (.box [.pv (.str e)])] := At.to (.lit (.ask (.req (.abs (Int) (fun YY => AV.pv (PV.rptr (PV.cells ((enc) YY)))) (.lit (.lit (.keep (.ask (.nil) (.lit (.nil)))))))) (.nil))) h (by kernel_rfl)
def ic_elc : IC := (.seq (.reg [⟨(some 4), (.mv (.c (.bool false))), 0, none⟩] none) (.seq (.reg [⟨(some 5), (.mv (.t 0)), 0, none⟩, ⟨(some 6), (.mv (.t 1)), 0, none⟩, ⟨(some 7), (.call (.c (.fn 121)) [(.t 5), (.t 6)]), 0, none⟩, ⟨(some 8), (.bin .num .geq (.t 7) (.c (.int .i64 0))), 2, none⟩, ⟨(some 4), (.mv (.t 8)), 2, none⟩] none) .ret))
def rs_elc : List IRes := [(.tmp 4)]
abbrev nt_elc : Nat := 9
def T_elc : Tab := tab [(121, .own pre_elx val_elx)]
theorem elc_s {G : AV × List AObj × List AObj → Prop} (e : List UInt8) (l : List Int) (t : Bool) (h : (pre_elx [(.pv (.sl 1 t (List.map enc l))), (.fn 119 [] [(.ptr 0 0)])] [(.box [(.pv (.str e))])]) = true ∧ (G (((.pv (.bool (decide (fstBad (Str.mk e) (List.map dec (List.map enc l)) 0 ≥ 0)))), ([(.box [(.pv (.str e))])], []))))) : Gets T_elc 1 (endO' 1 rs_elc G) ic_elc [] (st0O 9 [.pv (.sl 1 t (l.map enc)), .fn 119 [] [.ptr 0 0]] [.box [.pv (.str e)]]) := Gets.to (.req (.keep (.lit (.nil)))) h (by kernel_rfl)
def ic_elements : IC := (.seq (.reg [⟨(some 2), (.box 1 (.t 0)), 0, none⟩, ⟨(some 4), (.mv (.c (.bool false))), 1, none⟩] none) (.seq (.reg [⟨(some 5), (.mv (.t 1)), 0, none⟩, ⟨(some 6), (.mkfn 119 [] [(.t 2)]), 0, none⟩, ⟨(some 7), (.call (.c (.fn 118)) [(.t 5), (.t 6)]), 0, none⟩, ⟨(some 8), (.un .not (.t 7)), 2, none⟩, ⟨(some 4), (.mv (.t 8)), 2, none⟩] none) .ret))
def rs_elements : List IRes := [(.tmp 4)]
abbrev nt_elements : Nat := 9
def T_elements : Tab := tab [(118, .own pre_elx val_elc)]
theorem elements_s {G : PV → Prop} (e : List UInt8) (l : List Int) (h : (pre_elx [(.pv (.sl 1 false (List.map enc l))), (.fn 119 [] [(.ptr 0 0)])] [(.box [(.pv (.str e))])]) = true ∧ (G ((.bool (!decide (0 ≤ fstBad (Str.mk e) (List.map dec (List.map enc l)) 0)))))) : Gets T_elements 0 (endP' rs_elements G) ic_elements [] (st0 9 [.str e, enc l]) := Gets.tp (.req (.keep (.nil))) h (by kernel_rfl)
def ic_arof : IC := (.seq (.reg [⟨(some 6), (.alloc (.agg [(.str []), (.sl 0 true []), (.sl 0 true [])])), 0, none⟩, ⟨(some 7), (.mv (.c (.int .i64 0))), 1, none⟩] none) (.seq (.seq (.reg [⟨(some 10), (.mv (.t 0)), 0, none⟩, ⟨(some 11), (.bin .num .neq (.t 10) (.c (.str [105, 110, 116]))), 0, none⟩, ⟨(some 12), (.mv (.t 11)), 0, none⟩, ⟨(some 13), (.mv (.t 0)), 0, (some (12, true))⟩, ⟨(some 14), (.bin .num .neq (.t 13) (.c (.str [98, 111, 111, 108]))), 0, (some (12, true))⟩, ⟨(some 15), (.pick (.t 12) (.t 14) (.c (.bool false))), 0, none⟩] none) (.cond (.t 15) (.seq (.reg [⟨(some 16), (.build [(.str []), (.sl 0 true []), (.sl 0 true [])] []), 0, none⟩, ⟨none, (.store 3 (.t 6) (.t 16)), 0, none⟩, ⟨(some 7), (.mv (.c (.int .i64 12))), 0, none⟩] none) .ret) .skip)) (.seq (.reg [⟨(some 18), (.mv (.t 1)), 0, none⟩, ⟨(some 19), (.call (.c (.fn 73)) [(.t 18)]), 0, none⟩, ⟨(some 17), (.mv (.t 19)), 2, none⟩, ⟨(some 20), (.extract (.t 17) 0), 2, none⟩, ⟨(some 21), (.extract (.t 17) 1), 2, none⟩, ⟨(some 8), (.mv (.t 20)), 2, none⟩, ⟨(some 9), (.mv (.t 21)), 2, none⟩] none) (.seq (.block 0 (.seq (.reg [⟨(some 23), (.mv (.t 9)), 0, none⟩, ⟨(some 24), (.bin .num .neq (.t 23) (.c (.int .i64 0))), 0, none⟩, ⟨(some 22), (.mv (.t 24)), 0, none⟩] none) (.cond (.t 22) (.seq (.reg [⟨(some 25), (.build [(.str []), (.sl 0 true []), (.sl 0 true [])] []), 0, none⟩, ⟨(some 26), (.mv (.t 9)), 0, none⟩, ⟨none, (.store 3 (.t 6) (.t 25)), 0, none⟩, ⟨(some 7), (.mv (.t 26)), 0, none⟩] none) .ret) (.seq (.reg [⟨(some 28), (.mv (.t 2)), 0, none⟩, ⟨(some 29), (.len 1 (.t 28)), 0, none⟩, ⟨(some 30), (.mv (.t 8)), 0, none⟩, ⟨(some 31), (.bin .num .neq (.t 29) (.t 30)), 0, none⟩, ⟨(some 27), (.mv (.t 31)), 0, none⟩] none) (.cond (.t 27) (.seq (.reg [⟨(some 32), (.build [(.str []), (.sl 0 true []), (.sl 0 true [])] []), 0, none⟩, ⟨none, (.store 3 (.t 6) (.t 32)), 0, none⟩, ⟨(some 7), (.mv (.c (.int .i64 1))), 0, none⟩] none) .ret) (.seq (.reg [⟨(some 34), (.mv (.t 0)), 0, none⟩, ⟨(some 35), (.mv (.t 2)), 0, none⟩, ⟨(some 36), (.call (.c (.fn 117)) [(.t 34), (.t 35)]), 0, none⟩, ⟨(some 37), (.un .not (.t 36)), 2, none⟩, ⟨(some 33), (.mv (.t 37)), 2, none⟩] none) (.cond (.t 33) (.seq (.reg [⟨(some 38), (.build [(.str []), (.sl 0 true []), (.sl 0 true [])] []), 0, none⟩, ⟨none, (.store 3 (.t 6) (.t 38)), 0, none⟩, ⟨(some 7), (.mv (.c (.int .i64 2))), 0, none⟩] none) .ret) .skip))))))) (.seq (.reg [⟨(some 39), (.mv (.t 0)), 0, none⟩, ⟨(some 40), (.mv (.t 1)), 0, none⟩, ⟨(some 41), (.call (.c (.fn 74)) [(.t 40)]), 0, none⟩, ⟨(some 42), (.mv (.t 2)), 2, none⟩, ⟨(some 43), (.call (.c (.fn 74)) [(.t 42)]), 2, none⟩, ⟨(some 44), (.build [(.str []), (.sl 0 true []), (.sl 0 true [])] [(0, (1, (.t 39))), (1, (1, (.t 41))), (2, (1, (.t 43)))]), 4, none⟩, ⟨none, (.store 3 (.t 6) (.t 44)), 4, none⟩, ⟨(some 7), (.mv (.c (.int .i64 0))), 4, none⟩] none) .ret)))))
def rs_arof : List IRes := [(.cell true 3 6), (.tmp 7)]
abbrev nt_arof : Nat := 45
def T_arof : Tab := tab [(73, .pure (preT (fun _ : List Int × Unit => true)) (valT (fun x : List Int × Unit => sizeB x.1))), (117, .pure (preT (fun x : Str × List Int × Unit => decide (x.2.1.length ≤ 1000000))) (valT (fun x : Str × List Int × Unit => x.2.1.all (elemB x.1)))), (74, .pure (preT (fun x : List Int × Unit => decide (x.1.length ≤ 1000000))) (valT (fun x : List Int × Unit => x.1)))]
theorem arof_s {G : PV → Prop} (e : List UInt8) (d x : List Int) (h : if (!e == [(105 : UInt8), (110 : UInt8), (116 : UInt8)]) = true then if (!e == [(98 : UInt8), (111 : UInt8), (111 : UInt8), (108 : UInt8)]) = true then G ((.tup [(.agg [(.str []), (.sl 0 true []), (.sl 0 true [])]), (.int .i64 12)])) else ((Go.Pl.preT (fun (x : List Int × Unit) => true) [(.sl 1 false (List.map enc d))]) = true ∧ (∃ y0 : Int × Int, AV.pv (valT (fun (x : List Int × Unit) => sizeB (Prod.fst x)) [(.sl 1 false (List.map enc d))]) = AV.pv (enc y0) ∧ (if (Prod.snd y0 != 0) = true then G ((.tup [(.agg [(.str []), (.sl 0 true []), (.sl 0 true [])]), (.int .i64 (Prod.snd y0))])) else (if ((↑(List.length (List.map enc x)) : Int) != Prod.fst y0) = true then G ((.tup [(.agg [(.str []), (.sl 0 true []), (.sl 0 true [])]), (.int .i64 1)])) else ((Go.Pl.preT (fun (x : Str × List Int × Unit) => decide (List.length (Prod.fst (Prod.snd x)) ≤ 1000000)) [(.str e), (.sl 1 false (List.map enc x))]) = true ∧ (∃ y1 : Bool, AV.pv (valT (fun (x : Str × List Int × Unit) => List.all (Prod.fst (Prod.snd x)) (elemB (Prod.fst x))) [(.str e), (.sl 1 false (List.map enc x))]) = AV.pv (enc y1) ∧ (if (!y1) = true then G ((.tup [(.agg [(.str []), (.sl 0 true []), (.sl 0 true [])]), (.int .i64 2)])) else ((Go.Pl.preT (fun (x : List Int × Unit) => decide (List.length (Prod.fst x) ≤ 1000000)) [(.sl 1 false (List.map enc d))]) = true ∧ (∃ y2 : List Int, AV.pv (valT (fun (x : List Int × Unit) => Prod.fst x) [(.sl 1 false (List.map enc d))]) = AV.pv (enc y2) ∧ ((Go.Pl.preT (fun (x : List Int × Unit) => decide (List.length (Prod.fst x) ≤ 1000000)) [(.sl 1 false (List.map enc x))]) = true ∧ (∃ y3 : List Int, AV.pv (valT (fun (x : List Int × Unit) => Prod.fst x) [(.sl 1 false (List.map enc x))]) = AV.pv (enc y3) ∧ (G ((.tup [(.agg [(.str e), (.sl 1 false (List.map enc y2)), (.sl 1 false (List.map enc y3))]), (.int .i64 0)])))))))))))))) else ((Go.Pl.preT (fun (x : List Int × Unit) => true) [(.sl 1 false (List.map enc d))]) = true ∧ (∃ y4 : Int × Int, AV.pv (valT (fun (x : List Int × Unit) => sizeB (Prod.fst x)) [(.sl 1 false (List.map enc d))]) = AV.pv (enc y4) ∧ (if (Prod.snd y4 != 0) = true then G ((.tup [(.agg [(.str []), (.sl 0 true []), (.sl 0 true [])]), (.int .i64 (Prod.snd y4))])) else (if ((↑(List.length (List.map enc x)) : Int) != Prod.fst y4) = true then G ((.tup [(.agg [(.str []), (.sl 0 true []), (.sl 0 true [])]), (.int .i64 1)])) else ((Go.Pl.preT (fun (x : Str × List Int × Unit) => decide (List.length (Prod.fst (Prod.snd x)) ≤ 1000000)) [(.str e), (.sl 1 false (List.map enc x))]) = true ∧ (∃ y5 : Bool, AV.pv (valT (fun (x : Str × List Int × Unit) => List.all (Prod.fst (Prod.snd x)) (elemB (Prod.fst x))) [(.str e), (.sl 1 false (List.map enc x))]) = AV.pv (enc y5) ∧ (if (!y5) = true then G ((.tup [(.agg [(.str []), (.sl 0 true []), (.sl 0 true [])]), (.int .i64 2)])) else ((Go.Pl.preT (fun (x : List Int × Unit) => decide (List.length (Prod.fst x) ≤ 1000000)) [(.sl 1 false (List.map enc d))]) = true ∧ (∃ y6 : List Int, AV.pv (valT (fun (x : List Int × Unit) => Prod.fst x) [(.sl 1 false (List.map enc d))]) = AV.pv (enc y6) ∧ ((Go.Pl.preT (fun (x : List Int × Unit) => decide (List.length (Prod.fst x) ≤ 1000000)) [(.sl 1 false (List.map enc x))]) = true ∧ (∃ y7 : List Int, AV.pv (valT (fun (x : List Int × Unit) => Prod.fst x) [(.sl 1 false (List.map enc x))]) = AV.pv (enc y7) ∧ (G ((.tup [(.agg [(.str e), (.sl 1 false (List.map enc y6)), (.sl 1 false (List.map enc y7))]), (.int .i64 0)]))))))))))))))) : Gets T_arof 0 (endP' rs_arof G) ic_arof [] (st0 45 [.str e, enc d, enc x]) := Gets.tp (.lit (.ask (.lit (.lit (.lit (.ask (.nil) (.req (.abs (Int × Int) (fun YY => AV.pv (enc YY)) (.lit (.ask (.nil) (.lit (.ask (.nil) (.req (.abs (Bool) (fun YY => AV.pv (enc YY)) (.ask (.nil) (.req (.abs (List Int) (fun YY => AV.pv (enc YY)) (.req (.abs (List Int) (fun YY => AV.pv (enc YY)) (.nil)))))))))))))))))) (.lit (.lit (.lit (.req (.abs (Int × Int) (fun YY => AV.pv (enc YY)) (.lit (.ask (.nil) (.lit (.ask (.nil) (.req (.abs (Bool) (fun YY => AV.pv (enc YY)) (.ask (.nil) (.req (.abs (List Int) (fun YY => AV.pv (enc YY)) (.req (.abs (List Int) (fun YY => AV.pv (enc YY)) (.nil))))))))))))))))))) h (by kernel_rfl)
def ic_rof18 : IC := (.seq (.reg [⟨(some 6), (.alloc (.agg [(.str []), (.sl 0 true []), (.sl 0 true [])])), 0, none⟩, ⟨(some 7), (.mv (.c (.int .i64 0))), 1, none⟩] none) (.seq (.seq (.reg [⟨(some 11), (.mv (.t 0)), 0, none⟩, ⟨(some 12), (.bin .num .neq (.t 11) (.c (.str [105, 110, 116]))), 0, none⟩, ⟨(some 13), (.mv (.t 12)), 0, none⟩, ⟨(some 14), (.mv (.t 0)), 0, (some (13, true))⟩, ⟨(some 15), (.bin .num .neq (.t 14) (.c (.str [98, 111, 111, 108]))), 0, (some (13, true))⟩, ⟨(some 16), (.pick (.t 13) (.t 15) (.c (.bool false))), 0, none⟩] none) (.cond (.t 16) (.seq (.reg [⟨(some 17), (.build [(.str []), (.sl 0 true []), (.sl 0 true [])] []), 0, none⟩, ⟨none, (.store 3 (.t 6) (.t 17)), 0, none⟩, ⟨(some 7), (.mv (.c (.int .i64 12))), 0, none⟩] none) .ret) .skip)) (.seq (.reg [⟨(some 19), (.mv (.t 1)), 0, none⟩, ⟨(some 20), (.call (.c (.fn 35)) [(.t 19)]), 0, none⟩, ⟨(some 18), (.mv (.t 20)), 2, none⟩, ⟨(some 21), (.extract (.t 18) 0), 2, none⟩, ⟨(some 22), (.extract (.t 18) 1), 2, none⟩, ⟨(some 8), (.mv (.t 21)), 2, none⟩, ⟨(some 9), (.mv (.t 22)), 2, none⟩] none) (.seq (.seq (.reg [⟨(some 23), (.mv (.t 9)), 0, none⟩, ⟨(some 24), (.bin .num .neq (.t 23) (.c (.int .i64 0))), 0, none⟩] none) (.cond (.t 24) (.seq (.reg [⟨(some 25), (.build [(.str []), (.sl 0 true []), (.sl 0 true [])] []), 0, none⟩, ⟨(some 26), (.mv (.t 9)), 0, none⟩, ⟨none, (.store 3 (.t 6) (.t 25)), 0, none⟩, ⟨(some 7), (.mv (.t 26)), 0, none⟩] none) .ret) .skip)) (.seq (.seq (.reg [⟨(some 27), (.mv (.t 2)), 0, none⟩, ⟨(some 28), (.len 1 (.t 27)), 0, none⟩, ⟨(some 29), (.mv (.t 8)), 0, none⟩, ⟨(some 30), (.bin .num .neq (.t 28) (.t 29)), 0, none⟩] none) (.cond (.t 30) (.seq (.reg [⟨(some 31), (.build [(.str []), (.sl 0 true []), (.sl 0 true [])] []), 0, none⟩, ⟨none, (.store 3 (.t 6) (.t 31)), 0, none⟩, ⟨(some 7), (.mv (.c (.int .i64 1))), 0, none⟩] none) .ret) .skip)) (.seq (.seq (.reg [⟨(some 10), (.mv (.c (.int .i64 0))), 0, none⟩] none) (.block 0 (.loop [10, 2, 0, 6, 1] (.seq (.seq (.reg [⟨(some 32), (.mv (.t 10)), 0, none⟩, ⟨(some 33), (.mv (.t 2)), 0, none⟩, ⟨(some 34), (.len 1 (.t 33)), 0, none⟩, ⟨(some 35), (.bin .num .lss (.t 32) (.t 34)), 0, none⟩] none) (.cond (.t 35) .skip (.exit 0))) (.seq (.block 1 (.seq (.reg [⟨(some 38), (.mv (.t 0)), 0, none⟩, ⟨(some 39), (.mv (.t 2)), 0, none⟩, ⟨(some 40), (.mv (.t 10)), 0, none⟩, ⟨(some 41), (.iaddr 1 (.t 39) (.t 40)), 0, none⟩, ⟨(some 42), (.load false [(.int .i64)] (.t 41)), 0, none⟩, ⟨(some 43), (.call (.c (.fn 116)) [(.t 38), (.t 42)]), 0, none⟩, ⟨(some 44), (.un .not (.t 43)), 2, none⟩] none) (.cond (.t 44) (.seq (.reg [⟨(some 45), (.build [(.str []), (.sl 0 true []), (.sl 0 true [])] []), 0, none⟩, ⟨none, (.store 3 (.t 6) (.t 45)), 0, none⟩, ⟨(some 7), (.mv (.c (.int .i64 2))), 0, none⟩] none) .ret) .skip))) (.reg [⟨(some 36), (.mv (.t 10)), 0, none⟩, ⟨(some 37), (.bin .num .add (.t 36) (.c (.int .i64 1))), 0, none⟩, ⟨(some 10), (.mv (.t 37)), 0, none⟩] none)))))) (.seq (.reg [⟨(some 46), (.mv (.t 0)), 0, none⟩, ⟨(some 47), (.mv (.t 1)), 0, none⟩, ⟨(some 48), (.call (.c (.fn 75)) [(.t 47)]), 0, none⟩, ⟨(some 49), (.mv (.t 2)), 2, none⟩, ⟨(some 50), (.call (.c (.fn 75)) [(.t 49)]), 2, none⟩, ⟨(some 51), (.build [(.str []), (.sl 0 true []), (.sl 0 true [])] [(0, (1, (.t 46))), (1, (1, (.t 48))), (2, (1, (.t 50)))]), 4, none⟩, ⟨none, (.store 3 (.t 6) (.t 51)), 4, none⟩, ⟨(some 7), (.mv (.c (.int .i64 0))), 4, none⟩] none) .ret)))))))
def rs_rof18 : List IRes := [(.cell true 3 6), (.tmp 7)]
abbrev nt_rof18 : Nat := 52
def T_rof18 : Tab := tab [(35, .pure (preT (fun _ : List Int × Unit => true)) (valT (fun x : List Int × Unit => sizeB x.1))), (116, .pure (preT (fun _ : Str × Int × Unit => true)) (valT (fun x : Str × Int × Unit => elemB x.1 x.2.1))), (75, .pure (preT (fun x : List Int × Unit => decide (x.1.length ≤ 1000000))) (valT (fun x : List Int × Unit => x.1)))]
theorem rof18_s {G : PV → Prop} (e : List UInt8) (d x : List Int) (h : if (!e == [(105 : UInt8), (110 : UInt8), (116 : UInt8)]) = true then if (!e == [(98 : UInt8), (111 : UInt8), (111 : UInt8), (108 : UInt8)]) = true then G ((.tup [(.agg [(.str []), (.sl 0 true []), (.sl 0 true [])]), (.int .i64 12)])) else ((Go.Pl.preT (fun (x : List Int × Unit) => true) [(.sl 1 false (List.map enc d))]) = true ∧ (∃ y0 : Int × Int, AV.pv (valT (fun (x : List Int × Unit) => sizeB (Prod.fst x)) [(.sl 1 false (List.map enc d))]) = AV.pv (enc y0) ∧ (if (Prod.snd y0 != 0) = true then G ((.tup [(.agg [(.str []), (.sl 0 true []), (.sl 0 true [])]), (.int .i64 (Prod.snd y0))])) else (if ((↑(List.length (List.map enc x)) : Int) != Prod.fst y0) = true then G ((.tup [(.agg [(.str []), (.sl 0 true []), (.sl 0 true [])]), (.int .i64 1)])) else (At T_rof18 0 (endP' rs_rof18 G) ic_rof18 0 52 [(0, (.pv (.str e))), (1, (.pv (.sl 1 false (List.map enc d)))), (2, (.pv (.sl 1 false (List.map enc x)))), (6, (.ptr 0 0)), (10, (.pv (.int .i64 0)))] [(.obj (.box [(.pv (.str [])), (.pv (.sl 0 true [])), (.pv (.sl 0 true []))]))]))))) else ((Go.Pl.preT (fun (x : List Int × Unit) => true) [(.sl 1 false (List.map enc d))]) = true ∧ (∃ y1 : Int × Int, AV.pv (valT (fun (x : List Int × Unit) => sizeB (Prod.fst x)) [(.sl 1 false (List.map enc d))]) = AV.pv (enc y1) ∧ (if (Prod.snd y1 != 0) = true then G ((.tup [(.agg [(.str []), (.sl 0 true []), (.sl 0 true [])]), (.int .i64 (Prod.snd y1))])) else (if ((↑(List.length (List.map enc x)) : Int) != Prod.fst y1) = true then G ((.tup [(.agg [(.str []), (.sl 0 true []), (.sl 0 true [])]), (.int .i64 1)])) else (At T_rof18 0 (endP' rs_rof18 G) ic_rof18 0 52 [(0, (.pv (.str e))), (1, (.pv (.sl 1 false (List.map enc d)))), (2, (.pv (.sl 1 false (List.map enc x)))), (6, (.ptr 0 0)), (10, (.pv (.int .i64 0)))] [(.obj (.box [(.pv (.str [])), (.pv (.sl 0 true [])), (.pv (.sl 0 true []))]))])))))) : Gets T_rof18 0 (endP' rs_rof18 G) ic_rof18 [] (st0 52 [.str e, enc d, enc x]) := Gets.tp (.lit (.ask (.lit (.lit (.lit (.ask (.nil) (.req (.abs (Int × Int) (fun YY => AV.pv (enc YY)) (.lit (.ask (.nil) (.lit (.ask (.nil) (.nil))))))))))) (.lit (.lit (.lit (.req (.abs (Int × Int) (fun YY => AV.pv (enc YY)) (.lit (.ask (.nil) (.lit (.ask (.nil) (.nil)))))))))))) h (by kernel_rfl)
theorem rof18_h0 {G : PV → Prop} (e : List UInt8) (d x : List Int) (i : Int) (h : if (decide (i < (↑(List.length (List.map enc x)) : Int))) = true then (decide (0 ≤ i) && decide (Int.toNat i < List.length (List.map enc x)) && Enc.sz Int == 1) = true ∧ (∃ y0 : Int, AV.pv (PV.rptr (PV.cells (List.getD (List.map enc x) (Int.toNat i) default))) = AV.pv (PV.rptr (PV.cells ((enc) y0))) ∧ (∃ y1 : Bool, AV.pv (valT (fun (x : Str × Int × Unit) => elemB (Prod.fst x) (Prod.fst (Prod.snd x))) [(.str e), (.int .i64 (PV.asInt (List.getD (PV.cells (enc y0)) 0 default)))]) = AV.pv (enc y1) ∧ (if (!y1) = true then G ((.tup [(.agg [(.str []), (.sl 0 true []), (.sl 0 true [])]), (.int .i64 2)])) else (At T_rof18 0 (endP' rs_rof18 G) ic_rof18 0 52 [(0, (.pv (.str e))), (1, (.pv (.sl 1 false (List.map enc d)))), (2, (.pv (.sl 1 false (List.map enc x)))), (6, (.ptr 0 0)), (10, (.pv (.int .i64 (IntKind.wrap IntKind.i64 (i + 1)))))] [(.obj (.box [(.pv (.str [])), (.pv (.sl 0 true [])), (.pv (.sl 0 true []))]))])))) else ((Go.Pl.preT (fun (x : List Int × Unit) => decide (List.length (Prod.fst x) ≤ 1000000)) [(.sl 1 false (List.map enc d))]) = true ∧ (∃ y2 : List Int, AV.pv (valT (fun (x : List Int × Unit) => Prod.fst x) [(.sl 1 false (List.map enc d))]) = AV.pv (enc y2) ∧ ((Go.Pl.preT (fun (x : List Int × Unit) => decide (List.length (Prod.fst x) ≤ 1000000)) [(.sl 1 false (List.map enc x))]) = true ∧ (∃ y3 : List Int, AV.pv (valT (fun (x : List Int × Unit) => Prod.fst x) [(.sl 1 false (List.map enc x))]) = AV.pv (enc y3) ∧ (G ((.tup [(.agg [(.str e), (.sl 1 false (List.map enc y2)), (.sl 1 false (List.map enc y3))]), (.int .i64 0)])))))))) : At T_rof18 0 (endP' rs_rof18 G) ic_rof18 0 52 [(0, .pv (.str e)), (1, .pv (enc d)), (2, .pv (enc x)), (6, .ptr 0 0), (10, .pv (.int .i64 i))] [.obj (.box [.pv (.str []), .pv (.sl 0 true []), .pv (.sl 0 true [])])] := At.tp (.lit (.ask (.req (.abs (Int) (fun YY => AV.pv (PV.rptr (PV.cells ((enc) YY)))) (.lit (.lit (.abs (Bool) (fun YY => AV.pv (enc YY)) (.ask (.nil) (.lit (.nil)))))))) (.req (.abs (List Int) (fun YY => AV.pv (enc YY)) (.req (.abs (List Int) (fun YY => AV.pv (enc YY)) (.nil))))))) h (by kernel_rfl)
def ic_arv : IC := (.seq (.reg [⟨(some 1), (.box 3 (.t 0)), 0, none⟩, ⟨(some 2), (.mv (.c (.bool false))), 1, none⟩] none) (.seq (.reg [⟨(some 6), (.faddr 0 (.t 1)), 0, none⟩, ⟨(some 7), (.load false [.str] (.t 6)), 0, none⟩, ⟨(some 8), (.faddr 1 (.t 1)), 0, none⟩, ⟨(some 9), (.load false [(.sl 1)] (.t 8)), 0, none⟩, ⟨(some 10), (.faddr 2 (.t 1)), 0, none⟩, ⟨(some 11), (.load false [(.sl 1)] (.t 10)), 0, none⟩, ⟨(some 12), (.call (.c (.fn 115)) [(.t 7), (.t 9), (.t 11)]), 0, none⟩, ⟨(some 5), (.mv (.t 12)), 2, none⟩, ⟨(some 13), (.extract (.t 5) 0), 2, none⟩, ⟨(some 14), (.extract (.t 5) 1), 2, none⟩, ⟨(some 3), (.alloc (.agg [(.str []), (.sl 0 true []), (.sl 0 true [])])), 2, none⟩, ⟨none, (.store 3 (.t 3) (.t 13)), 3, none⟩, ⟨(some 4), (.mv (.t 14)), 3, none⟩] none) (.seq (.reg [⟨(some 15), (.mv (.t 4)), 0, none⟩, ⟨(some 16), (.bin .num .eql (.t 15) (.c (.int .i64 0))), 0, none⟩, ⟨(some 2), (.mv (.t 16)), 0, none⟩] none) .ret)))
def rs_arv : List IRes := [(.tmp 2)]
abbrev nt_arv : Nat := 17
def T_arv : Tab := tab [(115, .pure (preT (fun x : Str × List Int × List Int × Unit => decide (x.2.1.length ≤ 1000000) && decide (x.2.2.1.length ≤ 1000000))) (valT (fun x : Str × List Int × List Int × Unit => arOf x.1 x.2.1 x.2.2.1)))]
theorem arv_s {G : PV → Prop} (a : Arr) (h : (Go.Pl.preT (fun (x : Str × List Int × List Int × Unit) => decide (List.length (Prod.fst (Prod.snd x)) ≤ 1000000) && decide (List.length (Prod.fst (Prod.snd (Prod.snd x))) ≤ 1000000)) [(.str (Str.s (Arr.e a))), (.sl 1 false (List.map enc (Arr.d a))), (.sl 1 false (List.map enc (Arr.x a)))]) = true ∧ (∃ y0 : Arr × Int, AV.pv (valT (fun (x : Str × List Int × List Int × Unit) => arOf (Prod.fst x) (Prod.fst (Prod.snd x)) (Prod.fst (Prod.snd (Prod.snd x)))) [(.str (Str.s (Arr.e a))), (.sl 1 false (List.map enc (Arr.d a))), (.sl 1 false (List.map enc (Arr.x a)))]) = AV.pv (enc y0) ∧ (G ((.bool (Prod.snd y0 == 0)))))) : Gets T_arv 0 (endP' rs_arv G) ic_arv [] (st0 17 [enc a]) := Gets.tp (.req (.abs (Arr × Int) (fun YY => AV.pv (enc YY)) (.lit (.nil)))) h (by kernel_rfl)
def ic_rarv : IC := (.seq (.reg [⟨(some 1), (.box 3 (.t 0)), 0, none⟩, ⟨(some 2), (.mv (.c (.bool false))), 1, none⟩] none) (.seq (.reg [⟨(some 6), (.faddr 0 (.t 1)), 0, none⟩, ⟨(some 7), (.load false [.str] (.t 6)), 0, none⟩, ⟨(some 8), (.faddr 1 (.t 1)), 0, none⟩, ⟨(some 9), (.load false [(.sl 1)] (.t 8)), 0, none⟩, ⟨(some 10), (.faddr 2 (.t 1)), 0, none⟩, ⟨(some 11), (.load false [(.sl 1)] (.t 10)), 0, none⟩, ⟨(some 12), (.call (.c (.fn 106)) [(.t 7), (.t 9), (.t 11)]), 0, none⟩, ⟨(some 5), (.mv (.t 12)), 2, none⟩, ⟨(some 13), (.extract (.t 5) 0), 2, none⟩, ⟨(some 14), (.extract (.t 5) 1), 2, none⟩, ⟨(some 3), (.alloc (.agg [(.str []), (.sl 0 true []), (.sl 0 true [])])), 2, none⟩, ⟨none, (.store 3 (.t 3) (.t 13)), 3, none⟩, ⟨(some 4), (.mv (.t 14)), 3, none⟩] none) (.seq (.reg [⟨(some 15), (.mv (.t 4)), 0, none⟩, ⟨(some 16), (.bin .num .eql (.t 15) (.c (.int .i64 0))), 0, none⟩, ⟨(some 2), (.mv (.t 16)), 0, none⟩] none) .ret)))
def rs_rarv : List IRes := [(.tmp 2)]
abbrev nt_rarv : Nat := 17
def T_rarv : Tab := tab [(106, .pure (preT (fun x : Str × List Int × List Int × Unit => decide (x.2.1.length ≤ 1000000) && decide (x.2.2.1.length ≤ 1000000))) (valT (fun x : Str × List Int × List Int × Unit => arOf x.1 x.2.1 x.2.2.1)))]
theorem rarv_s {G : PV → Prop} (a : Arr) (h : (Go.Pl.preT (fun (x : Str × List Int × List Int × Unit) => decide (List.length (Prod.fst (Prod.snd x)) ≤ 1000000) && decide (List.length (Prod.fst (Prod.snd (Prod.snd x))) ≤ 1000000)) [(.str (Str.s (Arr.e a))), (.sl 1 false (List.map enc (Arr.d a))), (.sl 1 false (List.map enc (Arr.x a)))]) = true ∧ (∃ y0 : Arr × Int, AV.pv (valT (fun (x : Str × List Int × List Int × Unit) => arOf (Prod.fst x) (Prod.fst (Prod.snd x)) (Prod.fst (Prod.snd (Prod.snd x)))) [(.str (Str.s (Arr.e a))), (.sl 1 false (List.map enc (Arr.d a))), (.sl 1 false (List.map enc (Arr.x a)))]) = AV.pv (enc y0) ∧ (G ((.bool (Prod.snd y0 == 0)))))) : Gets T_rarv 0 (endP' rs_rarv G) ic_rarv [] (st0 17 [enc a]) := Gets.tp (.req (.abs (Arr × Int) (fun YY => AV.pv (enc YY)) (.lit (.nil)))) h (by kernel_rfl)
def ic_same17 : IC := (.seq (.reg [⟨(some 4), (.mv (.c (.bool false))), 0, none⟩] none) (.seq (.seq (.reg [⟨(some 6), (.mv (.t 0)), 0, none⟩, ⟨(some 7), (.len 1 (.t 6)), 0, none⟩, ⟨(some 8), (.mv (.t 1)), 0, none⟩, ⟨(some 9), (.len 1 (.t 8)), 0, none⟩, ⟨(some 10), (.bin .num .neq (.t 7) (.t 9)), 0, none⟩] none) (.cond (.t 10) (.seq (.reg [⟨(some 4), (.mv (.c (.bool false))), 0, none⟩] none) .ret) .skip)) (.seq (.seq (.reg [⟨(some 5), (.mv (.c (.int .i64 0))), 0, none⟩] none) (.block 0 (.loop [5, 0, 1] (.seq (.seq (.reg [⟨(some 11), (.mv (.t 5)), 0, none⟩, ⟨(some 12), (.mv (.t 0)), 0, none⟩, ⟨(some 13), (.len 1 (.t 12)), 0, none⟩, ⟨(some 14), (.bin .num .lss (.t 11) (.t 13)), 0, none⟩] none) (.cond (.t 14) .skip (.exit 0))) (.seq (.block 1 (.seq (.reg [⟨(some 17), (.mv (.t 0)), 0, none⟩, ⟨(some 18), (.mv (.t 5)), 0, none⟩, ⟨(some 19), (.iaddr 1 (.t 17) (.t 18)), 0, none⟩, ⟨(some 20), (.load false [(.int .i64)] (.t 19)), 0, none⟩, ⟨(some 21), (.mv (.t 1)), 0, none⟩, ⟨(some 22), (.mv (.t 5)), 0, none⟩, ⟨(some 23), (.iaddr 1 (.t 21) (.t 22)), 0, none⟩, ⟨(some 24), (.load false [(.int .i64)] (.t 23)), 0, none⟩, ⟨(some 25), (.bin .num .neq (.t 20) (.t 24)), 0, none⟩] (some [[], [], [0, 1], [2, 0, 1], [], [], [4, 5], [6, 4, 5], [3, 7, 2, 0, 1, 6, 4, 5]])) (.cond (.t 25) (.seq (.reg [⟨(some 4), (.mv (.c (.bool false))), 0, none⟩] none) .ret) .skip))) (.reg [⟨(some 15), (.mv (.t 5)), 0, none⟩, ⟨(some 16), (.bin .num .add (.t 15) (.c (.int .i64 1))), 0, none⟩, ⟨(some 5), (.mv (.t 16)), 0, none⟩] none)))))) (.seq (.reg [⟨(some 4), (.mv (.c (.bool true))), 0, none⟩] none) .ret))))
def rs_same17 : List IRes := [(.tmp 4)]
abbrev nt_same17 : Nat := 26
def T_same17 : Tab := tab []
theorem same17_s {G : PV → Prop} (a b : List Int) (h : if ((↑(List.length (List.map enc a)) : Int) != (↑(List.length (List.map enc b)) : Int)) = true then G ((.bool false)) else (At T_same17 0 (endP' rs_same17 G) ic_same17 0 26 [(0, (.pv (.sl 1 false (List.map enc a)))), (1, (.pv (.sl 1 false (List.map enc b)))), (5, (.pv (.int .i64 0)))] [])) : Gets T_same17 0 (endP' rs_same17 G) ic_same17 [] (st0 26 [enc a, enc b]) := Gets.tp (.lit (.ask (.nil) (.nil))) h (by kernel_rfl)
theorem same17_h0 {G : PV → Prop} (a b : List Int) (i : Int) (h : if (decide (i < (↑(List.length (List.map enc a)) : Int))) = true then (decide (0 ≤ i) && decide (Int.toNat i < List.length (List.map enc a)) && Enc.sz Int == 1) = true ∧ (∃ y0 : Int, AV.pv (PV.rptr (PV.cells (List.getD (List.map enc a) (Int.toNat i) default))) = AV.pv (PV.rptr (PV.cells ((enc) y0))) ∧ ((decide (0 ≤ i) && decide (Int.toNat i < List.length (List.map enc b)) && Enc.sz Int == 1) = true ∧ (∃ y1 : Int, AV.pv (PV.rptr (PV.cells (List.getD (List.map enc b) (Int.toNat i) default))) = AV.pv (PV.rptr (PV.cells ((enc) y1))) ∧ (if (PV.asInt (List.getD (PV.cells (enc y0)) 0 default) != PV.asInt (List.getD (PV.cells (enc y1)) 0 default)) = true then G ((.bool false)) else (At T_same17 0 (endP' rs_same17 G) ic_same17 0 26 [(0, (.pv (.sl 1 false (List.map enc a)))), (1, (.pv (.sl 1 false (List.map enc b)))), (5, (.pv (.int .i64 (IntKind.wrap IntKind.i64 (i + 1)))))] []))))) else (G ((.bool true)))) : At T_same17 0 (endP' rs_same17 G) ic_same17 0 26 [(0, .pv (enc a)), (1, .pv (enc b)), (5, .pv (.int .i64 i))] [] := At.tp (.lit (.ask (.req (.abs (Int) (fun YY => AV.pv (PV.rptr (PV.cells ((enc) YY)))) (.lit (.req (.abs (Int) (fun YY => AV.pv (PV.rptr (PV.cells ((enc) YY)))) (.lit (.lit (.ask (.nil) (.lit (.nil)))))))))) (.nil))) h (by kernel_rfl)
def ic_areq : IC := (.seq (.reg [⟨(some 2), (.box 3 (.t 0)), 0, none⟩, ⟨(some 3), (.box 3 (.t 1)), 1, none⟩, ⟨(some 4), (.mv (.c (.bool false))), 2, none⟩] none) (.seq (.reg [⟨(some 5), (.faddr 0 (.t 2)), 0, none⟩, ⟨(some 6), (.load false [.str] (.t 5)), 0, none⟩, ⟨(some 7), (.faddr 0 (.t 3)), 0, none⟩, ⟨(some 8), (.load false [.str] (.t 7)), 0, none⟩, ⟨(some 9), (.bin .num .eql (.t 6) (.t 8)), 0, none⟩, ⟨(some 10), (.mv (.t 9)), 0, none⟩, ⟨(some 11), (.faddr 1 (.t 2)), 0, (some (10, true))⟩, ⟨(some 12), (.load false [(.sl 1)] (.t 11)), 0, (some (10, true))⟩, ⟨(some 13), (.faddr 1 (.t 3)), 0, (some (10, true))⟩, ⟨(some 14), (.load false [(.sl 1)] (.t 13)), 0, (some (10, true))⟩, ⟨(some 15), (.call (.c (.fn 107)) [(.t 12), (.t 14)]), 0, (some (10, true))⟩, ⟨(some 16), (.pick (.t 10) (.t 15) (.c (.bool false))), 2, none⟩, ⟨(some 17), (.mv (.t 16)), 2, none⟩, ⟨(some 18), (.faddr 2 (.t 2)), 2, (some (17, true))⟩, ⟨(some 19), (.load false [(.sl 1)] (.t 18)), 2, (some (17, true))⟩, ⟨(some 20), (.faddr 2 (.t 3)), 2, (some (17, true))⟩, ⟨(some 21), (.load false [(.sl 1)] (.t 20)), 2, (some (17, true))⟩, ⟨(some 22), (.call (.c (.fn 107)) [(.t 19), (.t 21)]), 2, (some (17, true))⟩, ⟨(some 23), (.pick (.t 17) (.t 22) (.c (.bool false))), 4, none⟩, ⟨(some 4), (.mv (.t 23)), 4, none⟩] none) .ret))
def rs_areq : List IRes := [(.tmp 4)]
abbrev nt_areq : Nat := 24
def T_areq : Tab := tab [(107, .pure (preT (fun x : List Int × List Int × Unit => decide (x.1.length ≤ 1000000))) (valT (fun x : List Int × List Int × Unit => decide (x.1 = x.2.1))))]
theorem areq_s {G : PV → Prop} (a b : Arr) (h : if (Str.s (Arr.e a) == Str.s (Arr.e b)) = true then (Go.Pl.preT (fun (x : List Int × List Int × Unit) => decide (List.length (Prod.fst x) ≤ 1000000)) [(.sl 1 false (List.map enc (Arr.d a))), (.sl 1 false (List.map enc (Arr.d b)))]) = true ∧ (∃ y0 : Bool, AV.pv (valT (fun (x : List Int × List Int × Unit) => decide (Prod.fst x = Prod.fst (Prod.snd x))) [(.sl 1 false (List.map enc (Arr.d a))), (.sl 1 false (List.map enc (Arr.d b)))]) = AV.pv (enc y0) ∧ (if (y0) = true then (Go.Pl.preT (fun (x : List Int × List Int × Unit) => decide (List.length (Prod.fst x) ≤ 1000000)) [(.sl 1 false (List.map enc (Arr.x a))), (.sl 1 false (List.map enc (Arr.x b)))]) = true ∧ (∃ y1 : Bool, AV.pv (valT (fun (x : List Int × List Int × Unit) => decide (Prod.fst x = Prod.fst (Prod.snd x))) [(.sl 1 false (List.map enc (Arr.x a))), (.sl 1 false (List.map enc (Arr.x b)))]) = AV.pv (enc y1) ∧ (G ((.bool y1)))) else (G ((.bool false))))) else (G ((.bool false)))) : Gets T_areq 0 (endP' rs_areq G) ic_areq [] (st0 24 [enc a, enc b]) := Gets.tp (.lit (.ask (.lit (.lit (.lit (.lit (.req (.abs (Bool) (fun YY => AV.pv (enc YY)) (.lit (.ask (.lit (.lit (.lit (.lit (.req (.abs (Bool) (fun YY => AV.pv (enc YY)) (.lit (.nil)))))))) (.lit (.lit (.lit (.lit (.lit (.nil)))))))))))))) (.lit (.lit (.lit (.lit (.lit (.lit (.lit (.lit (.lit (.lit (.lit (.nil)))))))))))))) h (by kernel_rfl)
def ic_arfew : IC := (.seq (.reg [⟨(some 2), (.box 3 (.t 0)), 0, none⟩, ⟨(some 4), (.mv (.c (.bool false))), 1, none⟩] none) (.seq (.reg [⟨(some 5), (.faddr 0 (.t 2)), 0, none⟩, ⟨(some 6), (.load false [.str] (.t 5)), 0, none⟩, ⟨(some 7), (.len 0 (.t 6)), 0, none⟩, ⟨(some 8), (.bin .num .leq (.t 7) (.c (.int .i64 20))), 0, none⟩, ⟨(some 9), (.mv (.t 8)), 0, none⟩, ⟨(some 10), (.faddr 1 (.t 2)), 0, (some (9, true))⟩, ⟨(some 11), (.load false [(.sl 1)] (.t 10)), 0, (some (9, true))⟩, ⟨(some 12), (.len 1 (.t 11)), 0, (some (9, true))⟩, ⟨(some 13), (.bin .num .leq (.t 12) (.c (.int .i64 8))), 0, (some (9, true))⟩, ⟨(some 14), (.pick (.t 9) (.t 13) (.c (.bool false))), 0, none⟩, ⟨(some 15), (.mv (.t 14)), 0, none⟩, ⟨(some 16), (.faddr 2 (.t 2)), 0, (some (15, true))⟩, ⟨(some 17), (.load false [(.sl 1)] (.t 16)), 0, (some (15, true))⟩, ⟨(some 18), (.len 1 (.t 17)), 0, (some (15, true))⟩, ⟨(some 19), (.mv (.t 1)), 0, (some (15, true))⟩, ⟨(some 20), (.bin .num .leq (.t 18) (.t 19)), 0, (some (15, true))⟩, ⟨(some 21), (.pick (.t 15) (.t 20) (.c (.bool false))), 0, none⟩, ⟨(some 4), (.mv (.t 21)), 0, none⟩] none) .ret))
def rs_arfew : List IRes := [(.tmp 4)]
abbrev nt_arfew : Nat := 22
def T_arfew : Tab := tab []
theorem arfew_s {G : PV → Prop} (a : Arr) (n : Int) (h : if (decide ((↑(List.length (Str.s (Arr.e a))) : Int) ≤ 20)) = true then if (decide ((↑(List.length (List.map enc (Arr.d a))) : Int) ≤ 8)) = true then G ((.bool (decide ((↑(List.length (List.map enc (Arr.x a))) : Int) ≤ n)))) else (G ((.bool false))) else (G ((.bool false)))) : Gets T_arfew 0 (endP' rs_arfew G) ic_arfew [] (st0 22 [enc a, enc n]) := Gets.tp (.lit (.ask (.lit (.lit (.lit (.lit (.lit (.ask (.lit (.lit (.lit (.lit (.lit (.lit (.nil))))))) (.lit (.lit (.lit (.lit (.lit (.nil)))))))))))) (.lit (.lit (.lit (.lit (.lit (.lit (.lit (.lit (.lit (.lit (.nil))))))))))))) h (by kernel_rfl)
def ic_vcopy19 : IC := (.seq (.reg [⟨(some 2), (.box 3 (.t 0)), 0, none⟩, ⟨(some 3), (.box 3 (.t 1)), 1, none⟩, ⟨(some 4), (.alloc (.agg [(.str []), (.sl 0 true []), (.sl 0 true [])])), 2, none⟩, ⟨(some 5), (.mv (.c (.int .i64 0))), 3, none⟩] none) (.seq (.seq (.reg [⟨(some 9), (.load true [.str, (.sl 1), (.sl 1)] (.t 2)), 0, none⟩, ⟨(some 10), (.call (.c (.fn 70)) [(.t 9)]), 0, none⟩, ⟨(some 11), (.un .not (.t 10)), 2, none⟩, ⟨(some 12), (.mv (.t 11)), 2, none⟩, ⟨(some 13), (.faddr 2 (.t 2)), 2, (some (12, false))⟩, ⟨(some 14), (.load false [(.sl 1)] (.t 13)), 2, (some (12, false))⟩, ⟨(some 15), (.len 1 (.t 14)), 2, (some (12, false))⟩, ⟨(some 16), (.load true [(.int .i64), (.sl 1), (.sl 1)] (.t 3)), 2, (some (12, false))⟩, ⟨(some 17), (.call (.c (.fn 28)) [(.t 15), (.t 16)]), 2, (some (12, false))⟩, ⟨(some 18), (.un .not (.t 17)), 4, (some (12, false))⟩, ⟨(some 19), (.pick (.t 12) (.c (.bool true)) (.t 18)), 4, none⟩] none) (.cond (.t 19) (.seq (.reg [⟨(some 20), (.build [(.str []), (.sl 0 true []), (.sl 0 true [])] []), 0, none⟩, ⟨none, (.store 3 (.t 4) (.t 20)), 0, none⟩, ⟨(some 5), (.mv (.c (.int .i64 1))), 0, none⟩] none) .ret) .skip)) (.seq (.reg [⟨(some 21), (.load true [(.int .i64), (.sl 1), (.sl 1)] (.t 3)), 0, none⟩, ⟨(some 22), (.call (.c (.fn 31)) [(.t 21)]), 0, none⟩, ⟨(some 6), (.mv (.t 22)), 2, none⟩] none) (.seq (.reg [⟨(some 7), (.mv (.c (.sl 0 true []))), 0, none⟩] none) (.seq (.seq (.reg [⟨(some 8), (.mv (.c (.int .i64 0))), 0, none⟩] none) (.block 0 (.loop [8, 6, 7, 2, 3, 4] (.seq (.seq (.reg [⟨(some 23), (.mv (.t 8)), 0, none⟩, ⟨(some 24), (.mv (.t 6)), 0, none⟩, ⟨(some 25), (.len 1 (.t 24)), 0, none⟩, ⟨(some 26), (.bin .num .lss (.t 23) (.t 25)), 0, none⟩] none) (.cond (.t 26) .skip (.exit 0))) (.seq (.block 1 (.reg [⟨(some 29), (.mv (.t 7)), 0, none⟩, ⟨(some 30), (.faddr 2 (.t 2)), 0, none⟩, ⟨(some 31), (.load false [(.sl 1)] (.t 30)), 0, none⟩, ⟨(some 32), (.mv (.t 6)), 0, none⟩, ⟨(some 33), (.mv (.t 8)), 0, none⟩, ⟨(some 34), (.iaddr 1 (.t 32) (.t 33)), 0, none⟩, ⟨(some 35), (.load false [(.int .i64)] (.t 34)), 0, none⟩, ⟨(some 36), (.iaddr 1 (.t 31) (.t 35)), 0, none⟩, ⟨(some 37), (.load false [(.int .i64)] (.t 36)), 0, none⟩, ⟨(some 38), (.bslice 3 1 1 (.int .i64 0) [(0, (.t 37))]), 0, none⟩, ⟨(some 39), (.append 3 1 8 (.t 29) (.t 38)), 1, none⟩, ⟨(some 7), (.mv (.t 39)), 2, none⟩] (some [[], [], [1], [], [], [3, 4], [5, 3, 4], [2, 6, 1, 5, 3, 4], [7, 2, 6, 1, 5, 3, 4], [8, 7, 2, 6, 1, 5, 3, 4], [0, 9, 8, 7, 2, 6, 1, 5, 3, 4], [10, 0, 1, 2, 3, 4, 5, 6, 7, 8, 9]]))) (.reg [⟨(some 27), (.mv (.t 8)), 0, none⟩, ⟨(some 28), (.bin .num .add (.t 27) (.c (.int .i64 1))), 0, none⟩, ⟨(some 8), (.mv (.t 28)), 0, none⟩] none)))))) (.seq (.reg [⟨(some 40), (.faddr 0 (.t 2)), 0, none⟩, ⟨(some 41), (.load false [.str] (.t 40)), 0, none⟩, ⟨(some 42), (.faddr 1 (.t 3)), 0, none⟩, ⟨(some 43), (.load false [(.sl 1)] (.t 42)), 0, none⟩, ⟨(some 44), (.mv (.t 7)), 0, none⟩, ⟨(some 45), (.call (.c (.fn 106)) [(.t 41), (.t 43), (.t 44)]), 0, none⟩, ⟨(some 46), (.extract (.t 45) 0), 2, none⟩, ⟨(some 47), (.extract (.t 45) 1), 2, none⟩, ⟨none, (.store 3 (.t 4) (.t 46)), 2, none⟩, ⟨(some 5), (.mv (.t 47)), 2, none⟩] none) .ret))))))
def rs_vcopy19 : List IRes := [(.cell true 3 4), (.tmp 5)]
abbrev nt_vcopy19 : Nat := 48
def T_vcopy19 : Tab := tab [(70, .pure (preT (fun x : Arr × Unit => arSm x.1)) (valT (fun x : Arr × Unit => arVl x.1))), (28, .pure (preT (fun x : Int × View × Unit => decide (x.1 ≤ 9223372036854775807) && vOk x.2.1)) (valT (fun x : Int × View × Unit => validT x.1 x.2.1))), (31, .pure (preT (fun x : View × Unit => vOk x.1)) (valT (fun x : View × Unit => offsT x.1))), (106, .pure (preT (fun x : Str × List Int × List Int × Unit => decide (x.2.1.length ≤ 1000000) && decide (x.2.2.1.length ≤ 1000000))) (valT (fun x : Str × List Int × List Int × Unit => arOf x.1 x.2.1 x.2.2.1)))]
theorem vcopy19_s {G : PV → Prop} (a : Arr) (v : View) (h : (Go.Pl.preT (fun (x : Arr × Unit) => arSm (Prod.fst x)) [(.agg [(.str (Str.s (Arr.e a))), (.sl 1 false (List.map enc (Arr.d a))), (.sl 1 false (List.map enc (Arr.x a)))])]) = true ∧ (∃ y0 : Bool, AV.pv (valT (fun (x : Arr × Unit) => arVl (Prod.fst x)) [(.agg [(.str (Str.s (Arr.e a))), (.sl 1 false (List.map enc (Arr.d a))), (.sl 1 false (List.map enc (Arr.x a)))])]) = AV.pv (enc y0) ∧ (if (!y0) = true then G ((.tup [(.agg [(.str []), (.sl 0 true []), (.sl 0 true [])]), (.int .i64 1)])) else ((Go.Pl.preT (fun (x : Int × View × Unit) => decide (Prod.fst x ≤ 9223372036854775807) && vOk (Prod.fst (Prod.snd x))) [(.int .i64 (↑(List.length (List.map enc (Arr.x a))) : Int)), (.agg [(.int .i64 (View.o v)), (.sl 1 false (List.map enc (View.d v))), (.sl 1 false (List.map enc (View.s v)))])]) = true ∧ (∃ y1 : Bool, AV.pv (valT (fun (x : Int × View × Unit) => validT (Prod.fst x) (Prod.fst (Prod.snd x))) [(.int .i64 (↑(List.length (List.map enc (Arr.x a))) : Int)), (.agg [(.int .i64 (View.o v)), (.sl 1 false (List.map enc (View.d v))), (.sl 1 false (List.map enc (View.s v)))])]) = AV.pv (enc y1) ∧ (if (!y1) = true then G ((.tup [(.agg [(.str []), (.sl 0 true []), (.sl 0 true [])]), (.int .i64 1)])) else ((Go.Pl.preT (fun (x : View × Unit) => vOk (Prod.fst x)) [(.agg [(.int .i64 (View.o v)), (.sl 1 false (List.map enc (View.d v))), (.sl 1 false (List.map enc (View.s v)))])]) = true ∧ (∃ y2 : List Int, AV.pv (valT (fun (x : View × Unit) => offsT (Prod.fst x)) [(.agg [(.int .i64 (View.o v)), (.sl 1 false (List.map enc (View.d v))), (.sl 1 false (List.map enc (View.s v)))])]) = AV.pv (enc y2) ∧ (At T_vcopy19 0 (endP' rs_vcopy19 G) ic_vcopy19 0 48 [(2, (.ptr 0 0)), (3, (.ptr 1 0)), (4, (.ptr 2 0)), (6, (.pv (.sl 1 false (List.map enc y2)))), (7, (.pv (.sl 0 true []))), (8, (.pv (.int .i64 0)))] [(.obj (.box [(.pv (.str (Str.s (Arr.e a)))), (.pv (.sl 1 false (List.map enc (Arr.d a)))), (.pv (.sl 1 false (List.map enc (Arr.x a))))])), (.obj (.box [(.pv (.int .i64 (View.o v))), (.pv (.sl 1 false (List.map enc (View.d v)))), (.pv (.sl 1 false (List.map enc (View.s v))))])), (.obj (.box [(.pv (.str [])), (.pv (.sl 0 true [])), (.pv (.sl 0 true []))]))]))))))))) : Gets T_vcopy19 0 (endP' rs_vcopy19 G) ic_vcopy19 [] (st0 48 [enc a, enc v]) := Gets.tp (.req (.abs (Bool) (fun YY => AV.pv (enc YY)) (.ask (.lit (.lit (.lit (.lit (.lit (.lit (.lit (.nil)))))))) (.lit (.lit (.lit (.lit (.req (.abs (Bool) (fun YY => AV.pv (enc YY)) (.lit (.lit (.ask (.nil) (.req (.abs (List Int) (fun YY => AV.pv (enc YY)) (.nil))))))))))))))) h (by kernel_rfl)
theorem vcopy19_h0b {G : PV → Prop} (a : Arr) (v : View) (l : List Int) (m : Nat) (xs : List Int) (i : Int) (h : if (decide (i < (↑(List.length (List.map enc l)) : Int))) = true then (decide (0 ≤ i) && decide (Int.toNat i < List.length (List.map enc l)) && Enc.sz Int == 1) = true ∧ (∃ y0 : Int, AV.pv (PV.rptr (PV.cells (List.getD (List.map enc l) (Int.toNat i) default))) = AV.pv (PV.rptr (PV.cells ((enc) y0))) ∧ ((decide (0 ≤ PV.asInt (List.getD (PV.cells (enc y0)) 0 default)) && decide (Int.toNat (PV.asInt (List.getD (PV.cells (enc y0)) 0 default)) < List.length (List.map enc (Arr.x a))) && Enc.sz Int == 1) = true ∧ (∃ y1 : Int, AV.pv (PV.rptr (PV.cells (List.getD (List.map enc (Arr.x a)) (Int.toNat (PV.asInt (List.getD (PV.cells (enc y0)) 0 default))) default))) = AV.pv (PV.rptr (PV.cells ((enc) y1))) ∧ ((List.length (List.map enc xs) == m && m == m && decide ((m + List.length (List.drop 0 (List.take 1 [Sh.co (Sh.int .i64) (List.getD (PV.cells (enc y1)) 0 default)]))) * 8 ≤ 1099511627776) && decide (m + List.length (List.drop 0 (List.take 1 [Sh.co (Sh.int .i64) (List.getD (PV.cells (enc y1)) 0 default)])) ≤ 1099511627776)) = true ∧ (At T_vcopy19 0 (endP' rs_vcopy19 G) ic_vcopy19 0 48 [(2, (.ptr 0 0)), (3, (.ptr 1 0)), (4, (.ptr 2 0)), (6, (.pv (.sl 1 false (List.map enc l)))), (7, (.row 3 (m + List.length (List.drop 0 (List.take 1 [Sh.co (Sh.int .i64) (List.getD (PV.cells (enc y1)) 0 default)]))) 0 (m + List.length (List.drop 0 (List.take 1 [Sh.co (Sh.int .i64) (List.getD (PV.cells (enc y1)) 0 default)]))))), (8, (.pv (.int .i64 (IntKind.wrap IntKind.i64 (i + 1)))))] [(.obj (.box [(.pv (.str (Str.s (Arr.e a)))), (.pv (.sl 1 false (List.map enc (Arr.d a)))), (.pv (.sl 1 false (List.map enc (Arr.x a))))])), (.obj (.box [(.pv (.int .i64 (View.o v))), (.pv (.sl 1 false (List.map enc (View.d v)))), (.pv (.sl 1 false (List.map enc (View.s v))))])), (.obj (.box [(.pv (.str [])), (.pv (.sl 0 true [])), (.pv (.sl 0 true []))])), (.obj (.row false 3 1 (List.map enc xs ++ List.drop 0 (List.take 1 [Sh.co (Sh.int .i64) (List.getD (PV.cells (enc y1)) 0 default)]))))]))))) else ((List.length (List.map enc xs) == m) = true ∧ ((Go.Pl.preT (fun (x : Str × List Int × List Int × Unit) => decide (List.length (Prod.fst (Prod.snd x)) ≤ 1000000) && decide (List.length (Prod.fst (Prod.snd (Prod.snd x))) ≤ 1000000)) [(.str (Str.s (Arr.e a))), (.sl 1 false (List.map enc (View.d v))), (.sl 1 false (List.drop 0 (List.take m (List.map enc xs))))]) = true ∧ (∃ y2 : Arr × Int, AV.pv (valT (fun (x : Str × List Int × List Int × Unit) => arOf (Prod.fst x) (Prod.fst (Prod.snd x)) (Prod.fst (Prod.snd (Prod.snd x)))) [(.str (Str.s (Arr.e a))), (.sl 1 false (List.map enc (View.d v))), (.sl 1 false (List.drop 0 (List.take m (List.map enc xs))))]) = AV.pv (enc y2) ∧ (G ((.tup [(.agg [(.str (Str.s (Arr.e (Prod.fst y2)))), (.sl 1 false (List.map enc (Arr.d (Prod.fst y2)))), (.sl 1 false (List.map enc (Arr.x (Prod.fst y2))))]), (.int .i64 (Prod.snd y2))]))))))) : At T_vcopy19 0 (endP' rs_vcopy19 G) ic_vcopy19 0 48 [(2, .ptr 0 0), (3, .ptr 1 0), (4, .ptr 2 0), (6, .pv (enc l)), (7, .row 3 m 0 m), (8, .pv (.int .i64 i))] [.obj (.box [.pv (.str a.e.s), .pv (enc a.d), .pv (enc a.x)]), .obj (.box [.pv (.int .i64 v.o), .pv (enc v.d), .pv (enc v.s)]), .obj (.box [.pv (.str []), .pv (.sl 0 true []), .pv (.sl 0 true [])]), .obj (.row false 3 1 (xs.map enc))] := At.tp (.lit (.ask (.req (.abs (Int) (fun YY => AV.pv (PV.rptr (PV.cells ((enc) YY)))) (.lit (.req (.abs (Int) (fun YY => AV.pv (PV.rptr (PV.cells ((enc) YY)))) (.lit (.lit (.lit (.req (.lit (.nil))))))))))) (.req (.req (.abs (Arr × Int) (fun YY => AV.pv (enc YY)) (.nil)))))) h (by kernel_rfl)
theorem vcopy19_h0a {G : PV → Prop} (a : Arr) (v : View) (l : List Int) (i : Int) (h : if (decide (i < (↑(List.length (List.map enc l)) : Int))) = true then (decide (0 ≤ i) && decide (Int.toNat i < List.length (List.map enc l)) && Enc.sz Int == 1) = true ∧ (∃ y0 : Int, AV.pv (PV.rptr (PV.cells (List.getD (List.map enc l) (Int.toNat i) default))) = AV.pv (PV.rptr (PV.cells ((enc) y0))) ∧ ((decide (0 ≤ PV.asInt (List.getD (PV.cells (enc y0)) 0 default)) && decide (Int.toNat (PV.asInt (List.getD (PV.cells (enc y0)) 0 default)) < List.length (List.map enc (Arr.x a))) && Enc.sz Int == 1) = true ∧ (∃ y1 : Int, AV.pv (PV.rptr (PV.cells (List.getD (List.map enc (Arr.x a)) (Int.toNat (PV.asInt (List.getD (PV.cells (enc y0)) 0 default))) default))) = AV.pv (PV.rptr (PV.cells ((enc) y1))) ∧ (At T_vcopy19 0 (endP' rs_vcopy19 G) ic_vcopy19 0 48 [(2, (.ptr 0 0)), (3, (.ptr 1 0)), (4, (.ptr 2 0)), (6, (.pv (.sl 1 false (List.map enc l)))), (7, (.row 3 1 0 1)), (8, (.pv (.int .i64 (IntKind.wrap IntKind.i64 (i + 1)))))] [(.obj (.box [(.pv (.str (Str.s (Arr.e a)))), (.pv (.sl 1 false (List.map enc (Arr.d a)))), (.pv (.sl 1 false (List.map enc (Arr.x a))))])), (.obj (.box [(.pv (.int .i64 (View.o v))), (.pv (.sl 1 false (List.map enc (View.d v)))), (.pv (.sl 1 false (List.map enc (View.s v))))])), (.obj (.box [(.pv (.str [])), (.pv (.sl 0 true [])), (.pv (.sl 0 true []))])), (.obj (.row false 3 1 [(.int .i64 (PV.asInt (List.getD (PV.cells (enc y1)) 0 default)))]))])))) else ((Go.Pl.preT (fun (x : Str × List Int × List Int × Unit) => decide (List.length (Prod.fst (Prod.snd x)) ≤ 1000000) && decide (List.length (Prod.fst (Prod.snd (Prod.snd x))) ≤ 1000000)) [(.str (Str.s (Arr.e a))), (.sl 1 false (List.map enc (View.d v))), (.sl 0 true [])]) = true ∧ (∃ y2 : Arr × Int, AV.pv (valT (fun (x : Str × List Int × List Int × Unit) => arOf (Prod.fst x) (Prod.fst (Prod.snd x)) (Prod.fst (Prod.snd (Prod.snd x)))) [(.str (Str.s (Arr.e a))), (.sl 1 false (List.map enc (View.d v))), (.sl 0 true [])]) = AV.pv (enc y2) ∧ (G ((.tup [(.agg [(.str (Str.s (Arr.e (Prod.fst y2)))), (.sl 1 false (List.map enc (Arr.d (Prod.fst y2)))), (.sl 1 false (List.map enc (Arr.x (Prod.fst y2))))]), (.int .i64 (Prod.snd y2))])))))) : At T_vcopy19 0 (endP' rs_vcopy19 G) ic_vcopy19 0 48 [(2, .ptr 0 0), (3, .ptr 1 0), (4, .ptr 2 0), (6, .pv (enc l)), (7, .pv (.sl 0 true [])), (8, .pv (.int .i64 i))] [.obj (.box [.pv (.str a.e.s), .pv (enc a.d), .pv (enc a.x)]), .obj (.box [.pv (.int .i64 v.o), .pv (enc v.d), .pv (enc v.s)]), .obj (.box [.pv (.str []), .pv (.sl 0 true []), .pv (.sl 0 true [])])] := At.tp (.lit (.ask (.req (.abs (Int) (fun YY => AV.pv (PV.rptr (PV.cells ((enc) YY)))) (.lit (.req (.abs (Int) (fun YY => AV.pv (PV.rptr (PV.cells ((enc) YY)))) (.lit (.lit (.lit (.lit (.lit (.lit (.lit (.nil))))))))))))) (.req (.abs (Arr × Int) (fun YY => AV.pv (enc YY)) (.nil))))) h (by kernel_rfl)
def ic_lcopy : IC := (.seq (.reg [⟨(some 2), (.box 3 (.t 0)), 0, none⟩, ⟨(some 3), (.box 3 (.t 1)), 1, none⟩, ⟨(some 4), (.mv (.c (.bool false))), 2, none⟩] none) (.seq (.seq (.reg [⟨(some 13), (.call (.c (.fn 20)) []), 0, none⟩, ⟨(some 14), (.un .not (.t 13)), 2, none⟩] none) (.cond (.t 14) (.seq (.reg [⟨(some 4), (.mv (.c (.bool false))), 0, none⟩] none) .ret) .skip)) (.seq (.seq (.reg [⟨(some 15), (.load true [.str, (.sl 1), (.sl 1)] (.t 2)), 0, none⟩, ⟨(some 16), (.call (.c (.fn 66)) [(.t 15), (.c (.int .i64 100))]), 0, none⟩, ⟨(some 17), (.un .not (.t 16)), 2, none⟩, ⟨(some 18), (.mv (.t 17)), 2, none⟩, ⟨(some 19), (.load true [(.int .i64), (.sl 1), (.sl 1)] (.t 3)), 2, (some (18, false))⟩, ⟨(some 20), (.call (.c (.fn 21)) [(.t 19)]), 2, (some (18, false))⟩, ⟨(some 21), (.un .not (.t 20)), 4, (some (18, false))⟩, ⟨(some 22), (.pick (.t 18) (.c (.bool true)) (.t 21)), 4, none⟩] none) (.cond (.t 22) (.seq (.reg [⟨(some 4), (.mv (.c (.bool true))), 0, none⟩] none) .ret) .skip)) (.seq (.reg [⟨(some 24), (.load true [.str, (.sl 1), (.sl 1)] (.t 2)), 0, none⟩, ⟨(some 25), (.load true [(.int .i64), (.sl 1), (.sl 1)] (.t 3)), 0, none⟩, ⟨(some 26), (.call (.c (.fn 67)) [(.t 24), (.t 25)]), 0, none⟩, ⟨(some 23), (.mv (.t 26)), 2, none⟩, ⟨(some 27), (.extract (.t 23) 0), 2, none⟩, ⟨(some 28), (.extract (.t 23) 1), 2, none⟩, ⟨(some 5), (.alloc (.agg [(.str []), (.sl 0 true []), (.sl 0 true [])])), 2, none⟩, ⟨none, (.store 3 (.t 5) (.t 27)), 3, none⟩, ⟨(some 6), (.mv (.t 28)), 3, none⟩] none) (.seq (.reg [⟨(some 30), (.load true [.str, (.sl 1), (.sl 1)] (.t 2)), 0, none⟩, ⟨(some 31), (.load true [(.int .i64), (.sl 1), (.sl 1)] (.t 3)), 0, none⟩, ⟨(some 32), (.call (.c (.fn 68)) [(.t 30), (.t 31)]), 0, none⟩, ⟨(some 29), (.mv (.t 32)), 2, none⟩, ⟨(some 33), (.extract (.t 29) 0), 2, none⟩, ⟨(some 34), (.extract (.t 29) 1), 2, none⟩, ⟨(some 7), (.alloc (.agg [(.str []), (.sl 0 true []), (.sl 0 true [])])), 2, none⟩, ⟨none, (.store 3 (.t 7) (.t 33)), 3, none⟩, ⟨(some 8), (.mv (.t 34)), 3, none⟩] none) (.seq (.seq (.reg [⟨(some 35), (.load true [.str, (.sl 1), (.sl 1)] (.t 5)), 0, none⟩, ⟨(some 36), (.load true [.str, (.sl 1), (.sl 1)] (.t 7)), 0, none⟩, ⟨(some 37), (.call (.c (.fn 69)) [(.t 35), (.t 36)]), 0, none⟩, ⟨(some 38), (.un .not (.t 37)), 2, none⟩, ⟨(some 39), (.mv (.t 38)), 2, none⟩, ⟨(some 40), (.mv (.t 6)), 2, (some (39, false))⟩, ⟨(some 41), (.mv (.t 8)), 2, (some (39, false))⟩, ⟨(some 42), (.bin .num .neq (.t 40) (.t 41)), 2, (some (39, false))⟩, ⟨(some 43), (.pick (.t 39) (.c (.bool true)) (.t 42)), 2, none⟩] none) (.cond (.t 43) (.seq (.reg [⟨(some 4), (.mv (.c (.bool false))), 0, none⟩] none) .ret) .skip)) (.seq (.reg [⟨(some 45), (.faddr 1 (.t 2)), 0, none⟩, ⟨(some 46), (.load false [(.sl 1)] (.t 45)), 0, none⟩, ⟨(some 47), (.call (.c (.fn 22)) [(.t 46)]), 0, none⟩, ⟨(some 44), (.mv (.t 47)), 2, none⟩, ⟨(some 48), (.extract (.t 44) 0), 2, none⟩, ⟨(some 49), (.extract (.t 44) 1), 2, none⟩, ⟨(some 9), (.alloc (.agg [(.int .i64 0), (.sl 0 true []), (.sl 0 true [])])), 2, none⟩, ⟨none, (.store 3 (.t 9) (.t 48)), 3, none⟩, ⟨(some 10), (.mv (.t 49)), 3, none⟩] none) (.seq (.reg [⟨(some 51), (.load true [.str, (.sl 1), (.sl 1)] (.t 2)), 0, none⟩, ⟨(some 52), (.load true [(.int .i64), (.sl 1), (.sl 1)] (.t 9)), 0, none⟩, ⟨(some 53), (.call (.c (.fn 67)) [(.t 51), (.t 52)]), 0, none⟩, ⟨(some 50), (.mv (.t 53)), 2, none⟩, ⟨(some 54), (.extract (.t 50) 0), 2, none⟩, ⟨(some 55), (.extract (.t 50) 1), 2, none⟩, ⟨(some 11), (.alloc (.agg [(.str []), (.sl 0 true []), (.sl 0 true [])])), 2, none⟩, ⟨none, (.store 3 (.t 11) (.t 54)), 3, none⟩, ⟨(some 12), (.mv (.t 55)), 3, none⟩] none) (.seq (.reg [⟨(some 56), (.load true [.str, (.sl 1), (.sl 1)] (.t 2)), 0, none⟩, ⟨(some 57), (.call (.c (.fn 70)) [(.t 56)]), 0, none⟩, ⟨(some 58), (.un .not (.t 57)), 2, none⟩, ⟨(some 59), (.mv (.t 58)), 2, none⟩, ⟨(some 60), (.mv (.t 10)), 2, (some (59, false))⟩, ⟨(some 61), (.bin .num .eql (.t 60) (.c (.int .i64 0))), 2, (some (59, false))⟩, ⟨(some 62), (.mv (.t 61)), 2, (some (59, false))⟩, ⟨(some 63), (.mv (.t 12)), 2, (some (62, true))⟩, ⟨(some 64), (.bin .num .eql (.t 63) (.c (.int .i64 0))), 2, (some (62, true))⟩, ⟨(some 65), (.pick (.t 62) (.t 64) (.c (.bool false))), 2, (some (59, false))⟩, ⟨(some 66), (.mv (.t 65)), 2, (some (59, false))⟩, ⟨(some 67), (.load true [.str, (.sl 1), (.sl 1)] (.t 11)), 2, (some (66, true))⟩, ⟨(some 68), (.load true [.str, (.sl 1), (.sl 1)] (.t 2)), 2, (some (66, true))⟩, ⟨(some 69), (.call (.c (.fn 69)) [(.t 67), (.t 68)]), 2, (some (66, true))⟩, ⟨(some 70), (.pick (.t 66) (.t 69) (.c (.bool false))), 4, (some (59, false))⟩, ⟨(some 71), (.pick (.t 59) (.c (.bool true)) (.t 70)), 4, none⟩, ⟨(some 4), (.mv (.t 71)), 4, none⟩] none) .ret)))))))))
def rs_lcopy : List IRes := [(.tmp 4)]
abbrev nt_lcopy : Nat := 72
def T_lcopy : Tab := tab [(20, .pure (preT (fun _ : Unit => true)) (valT (fun _ : Unit => true))), (66, .pure (preT (fun _ : Arr × Int × Unit => true)) (valT (fun x : Arr × Int × Unit => arFew x.1 x.2.1))), (21, .pure (preT (fun x : View × Unit => vIn x.1)) (valT (fun x : View × Unit => fewB x.1.o x.1.d x.1.s))), (67, .pure (preT (fun x : Arr × View × Unit => arSm x.1 && vOk x.2.1)) (valT (fun x : Arr × View × Unit => copyT x.1 x.2.1))), (68, .pure (preT (fun x : Arr × View × Unit => arSm x.1 && vOk x.2.1)) (valT (fun x : Arr × View × Unit => copyT x.1 x.2.1))), (69, .pure (preT (fun x : Arr × Arr × Unit => arSm x.1)) (valT (fun x : Arr × Arr × Unit => decide (x.1 = x.2.1)))), (22, .pure (preT (fun _ : List Int × Unit => true)) (valT (fun x : List Int × Unit => ofT x.1))), (70, .pure (preT (fun x : Arr × Unit => arSm x.1)) (valT (fun x : Arr × Unit => arVl x.1)))]
theorem lcopy_s {G : PV → Prop} (a : Arr) (v : View) (h : ∃ y0 : Bool, AV.pv (valT (fun (x : Unit) => true) []) = AV.pv (enc y0) ∧ (if (!y0) = true then G ((.bool false)) else ((Go.Pl.preT (fun (x : Arr × Int × Unit) => true) [(.agg [(.str (Str.s (Arr.e a))), (.sl 1 false (List.map enc (Arr.d a))), (.sl 1 false (List.map enc (Arr.x a)))]), (.int .i64 100)]) = true ∧ (∃ y1 : Bool, AV.pv (valT (fun (x : Arr × Int × Unit) => arFew (Prod.fst x) (Prod.fst (Prod.snd x))) [(.agg [(.str (Str.s (Arr.e a))), (.sl 1 false (List.map enc (Arr.d a))), (.sl 1 false (List.map enc (Arr.x a)))]), (.int .i64 100)]) = AV.pv (enc y1) ∧ (if (!y1) = true then G ((.bool true)) else ((Go.Pl.preT (fun (x : View × Unit) => vIn (Prod.fst x)) [(.agg [(.int .i64 (View.o v)), (.sl 1 false (List.map enc (View.d v))), (.sl 1 false (List.map enc (View.s v)))])]) = true ∧ (∃ y2 : Bool, AV.pv (valT (fun (x : View × Unit) => fewB (View.o (Prod.fst x)) (View.d (Prod.fst x)) (View.s (Prod.fst x))) [(.agg [(.int .i64 (View.o v)), (.sl 1 false (List.map enc (View.d v))), (.sl 1 false (List.map enc (View.s v)))])]) = AV.pv (enc y2) ∧ (if (!y2) = true then G ((.bool true)) else ((Go.Pl.preT (fun (x : Arr × View × Unit) => arSm (Prod.fst x) && vOk (Prod.fst (Prod.snd x))) [(.agg [(.str (Str.s (Arr.e a))), (.sl 1 false (List.map enc (Arr.d a))), (.sl 1 false (List.map enc (Arr.x a)))]), (.agg [(.int .i64 (View.o v)), (.sl 1 false (List.map enc (View.d v))), (.sl 1 false (List.map enc (View.s v)))])]) = true ∧ (∃ y3 : Arr × Int, AV.pv (valT (fun (x : Arr × View × Unit) => copyT (Prod.fst x) (Prod.fst (Prod.snd x))) [(.agg [(.str (Str.s (Arr.e a))), (.sl 1 false (List.map enc (Arr.d a))), (.sl 1 false (List.map enc (Arr.x a)))]), (.agg [(.int .i64 (View.o v)), (.sl 1 false (List.map enc (View.d v))), (.sl 1 false (List.map enc (View.s v)))])]) = AV.pv (enc y3) ∧ ((Go.Pl.preT (fun (x : Arr × View × Unit) => arSm (Prod.fst x) && vOk (Prod.fst (Prod.snd x))) [(.agg [(.str (Str.s (Arr.e a))), (.sl 1 false (List.map enc (Arr.d a))), (.sl 1 false (List.map enc (Arr.x a)))]), (.agg [(.int .i64 (View.o v)), (.sl 1 false (List.map enc (View.d v))), (.sl 1 false (List.map enc (View.s v)))])]) = true ∧ (∃ y4 : Arr × Int, AV.pv (valT (fun (x : Arr × View × Unit) => copyT (Prod.fst x) (Prod.fst (Prod.snd x))) [(.agg [(.str (Str.s (Arr.e a))), (.sl 1 false (List.map enc (Arr.d a))), (.sl 1 false (List.map enc (Arr.x a)))]), (.agg [(.int .i64 (View.o v)), (.sl 1 false (List.map enc (View.d v))), (.sl 1 false (List.map enc (View.s v)))])]) = AV.pv (enc y4) ∧ ((Go.Pl.preT (fun (x : Arr × Arr × Unit) => arSm (Prod.fst x)) [(.agg [(.str (Str.s (Arr.e (Prod.fst y3)))), (.sl 1 false (List.map enc (Arr.d (Prod.fst y3)))), (.sl 1 false (List.map enc (Arr.x (Prod.fst y3))))]), (.agg [(.str (Str.s (Arr.e (Prod.fst y4)))), (.sl 1 false (List.map enc (Arr.d (Prod.fst y4)))), (.sl 1 false (List.map enc (Arr.x (Prod.fst y4))))])]) = true ∧ (∃ y5 : Bool, AV.pv (valT (fun (x : Arr × Arr × Unit) => decide (Prod.fst x = Prod.fst (Prod.snd x))) [(.agg [(.str (Str.s (Arr.e (Prod.fst y3)))), (.sl 1 false (List.map enc (Arr.d (Prod.fst y3)))), (.sl 1 false (List.map enc (Arr.x (Prod.fst y3))))]), (.agg [(.str (Str.s (Arr.e (Prod.fst y4)))), (.sl 1 false (List.map enc (Arr.d (Prod.fst y4)))), (.sl 1 false (List.map enc (Arr.x (Prod.fst y4))))])]) = AV.pv (enc y5) ∧ (if (!y5) = true then G ((.bool false)) else (if (Prod.snd y3 != Prod.snd y4) = true then G ((.bool false)) else ((Go.Pl.preT (fun (x : List Int × Unit) => true) [(.sl 1 false (List.map enc (Arr.d a)))]) = true ∧ (∃ y6 : View × Int, AV.pv (valT (fun (x : List Int × Unit) => ofT (Prod.fst x)) [(.sl 1 false (List.map enc (Arr.d a)))]) = AV.pv (enc y6) ∧ ((Go.Pl.preT (fun (x : Arr × View × Unit) => arSm (Prod.fst x) && vOk (Prod.fst (Prod.snd x))) [(.agg [(.str (Str.s (Arr.e a))), (.sl 1 false (List.map enc (Arr.d a))), (.sl 1 false (List.map enc (Arr.x a)))]), (.agg [(.int .i64 (View.o (Prod.fst y6))), (.sl 1 false (List.map enc (View.d (Prod.fst y6)))), (.sl 1 false (List.map enc (View.s (Prod.fst y6))))])]) = true ∧ (∃ y7 : Arr × Int, AV.pv (valT (fun (x : Arr × View × Unit) => copyT (Prod.fst x) (Prod.fst (Prod.snd x))) [(.agg [(.str (Str.s (Arr.e a))), (.sl 1 false (List.map enc (Arr.d a))), (.sl 1 false (List.map enc (Arr.x a)))]), (.agg [(.int .i64 (View.o (Prod.fst y6))), (.sl 1 false (List.map enc (View.d (Prod.fst y6)))), (.sl 1 false (List.map enc (View.s (Prod.fst y6))))])]) = AV.pv (enc y7) ∧ ((Go.Pl.preT (fun (x : Arr × Unit) => arSm (Prod.fst x)) [(.agg [(.str (Str.s (Arr.e a))), (.sl 1 false (List.map enc (Arr.d a))), (.sl 1 false (List.map enc (Arr.x a)))])]) = true ∧ (∃ y8 : Bool, AV.pv (valT (fun (x : Arr × Unit) => arVl (Prod.fst x)) [(.agg [(.str (Str.s (Arr.e a))), (.sl 1 false (List.map enc (Arr.d a))), (.sl 1 false (List.map enc (Arr.x a)))])]) = AV.pv (enc y8) ∧ (if (!y8) = true then G ((.bool true)) else (if (Prod.snd y6 == 0) = true then if (Prod.snd y7 == 0) = true then (Go.Pl.preT (fun (x : Arr × Arr × Unit) => arSm (Prod.fst x)) [(.agg [(.str (Str.s (Arr.e (Prod.fst y7)))), (.sl 1 false (List.map enc (Arr.d (Prod.fst y7)))), (.sl 1 false (List.map enc (Arr.x (Prod.fst y7))))]), (.agg [(.str (Str.s (Arr.e a))), (.sl 1 false (List.map enc (Arr.d a))), (.sl 1 false (List.map enc (Arr.x a)))])]) = true ∧ (∃ y9 : Bool, AV.pv (valT (fun (x : Arr × Arr × Unit) => decide (Prod.fst x = Prod.fst (Prod.snd x))) [(.agg [(.str (Str.s (Arr.e (Prod.fst y7)))), (.sl 1 false (List.map enc (Arr.d (Prod.fst y7)))), (.sl 1 false (List.map enc (Arr.x (Prod.fst y7))))]), (.agg [(.str (Str.s (Arr.e a))), (.sl 1 false (List.map enc (Arr.d a))), (.sl 1 false (List.map enc (Arr.x a)))])]) = AV.pv (enc y9) ∧ (G ((.bool y9)))) else (G ((.bool false))) else (G ((.bool false))))))))))))))))))))))))))) : Gets T_lcopy 0 (endP' rs_lcopy G) ic_lcopy [] (st0 72 [enc a, enc v]) := Gets.tp (.lit (.abs (Bool) (fun YY => AV.pv (enc YY)) (.ask (.nil) (.req (.abs (Bool) (fun YY => AV.pv (enc YY)) (.ask (.lit (.lit (.lit (.lit (.nil))))) (.lit (.req (.abs (Bool) (fun YY => AV.pv (enc YY)) (.lit (.lit (.ask (.nil) (.req (.abs (Arr × Int) (fun YY => AV.pv (enc YY)) (.req (.abs (Arr × Int) (fun YY => AV.pv (enc YY)) (.req (.abs (Bool) (fun YY => AV.pv (enc YY)) (.ask (.lit (.lit (.lit (.lit (.nil))))) (.lit (.lit (.lit (.lit (.ask (.nil) (.req (.abs (View × Int) (fun YY => AV.pv (enc YY)) (.req (.abs (Arr × Int) (fun YY => AV.pv (enc YY)) (.req (.abs (Bool) (fun YY => AV.pv (enc YY)) (.ask (.lit (.lit (.lit (.lit (.lit (.lit (.nil))))))) (.lit (.lit (.lit (.ask (.lit (.lit (.lit (.lit (.lit (.ask (.lit (.lit (.req (.abs (Bool) (fun YY => AV.pv (enc YY)) (.lit (.lit (.lit (.nil)))))))) (.lit (.lit (.lit (.lit (.lit (.nil)))))))))))) (.lit (.lit (.lit (.lit (.lit (.lit (.lit (.lit (.lit (.lit (.nil)))))))))))))))))))))))))))))))))))))))))))))) h (by kernel_rfl)
end Go.Pl

namespace Go.Pl
open Go.RowKit
open Enc (enc dec is)
open EncL (encL decL isL)
theorem elv_run : ∀ a : Str × Int × Unit, true = true → Gets T_elv 0 (endP' rs_elv (Fits (elemB a.1 a.2.1))) ic_elv [] (st0 nt_elv (encL a)) := by
  rintro ⟨⟨e⟩, n, ⟨⟩⟩ _
  refine elv_s e n ?_
  simp only [beq_iff_eq, decide_eq_true_eq, Fits, is_bool, dec_bool, true_and, elemB, sInt, sBool, ge_iff_le]
  split
  · split <;> simp [*]
  · split
    · split <;> simp [*]
    · simp [*]
theorem r17v_run : ∀ a : Str × Int × Unit, true = true → Gets T_r17v 0 (endP' rs_r17v (Fits (elemB a.1 a.2.1))) ic_r17v [] (st0 nt_r17v (encL a)) := by
  rintro ⟨⟨e⟩, n, ⟨⟩⟩ _
  refine r17v_s e n ?_
  simp only [beq_iff_eq, decide_eq_true_eq, Fits, is_bool, dec_bool, true_and, elemB, sInt, sBool, ge_iff_le]
  by_cases h1 : e = [105, 110, 116]
  · subst h1
    rw [if_neg (by decide)]
    simp only [if_true]
    split <;> simp [*]
  · by_cases h2 : e = [98, 111, 111, 108]
    · subst h2
      simp only [if_true]
      split <;> simp [*]
    · simp [h1, h2]
theorem el1_run : ∀ args os, pre_el1 args os = true → Gets T_el1 os.length (endO' os.length rs_el1 fun r => r = val_el1 args os) ic_el1 [] (st0O nt_el1 args os) := by
  intro args os hp
  unfold pre_el1 at hp
  split at hp
  · rename_i n e
    refine el1_s e n ?_
    exact ex_enc (⟨e⟩, n, ()) rfl rfl
  · cases hp
theorem fstBad_all (e : Str) : ∀ (l : List Int) (k : Nat), decide (0 ≤ fstBad e l k) = !l.all (elemB e)
  | [], k => by simp [fstBad]
  | n :: l, k => by
    simp only [fstBad, List.all_cons]
    by_cases h : elemB e n = true
    · simp only [h, if_true, Bool.true_and]; exact fstBad_all e l (k + 1)
    · simp only [Bool.not_eq_true] at h; simp [h]
theorem elx_loop (e : List UInt8) (l : List Int) (t : Bool) (hl : l.length ≤ 1000000) (r : AV × List AObj × List AObj) : ∀ (m k : Nat), m + k = l.length → r = (.pv (.int .i64 (fstBad ⟨e⟩ (l.drop k) k)), [.box [.pv (.str e)]], []) →
    At T_elx 1 (endO' 1 rs_elx fun x => x = r) ic_elx 0 nt_elx [(0, .pv (.sl 1 t (l.map enc))), (1, .fn 119 [] [.ptr 0 0]), (7, .pv (.int .i64 l.length)), (8, .pv (.int .i64 k))] [.obj (.box [.pv (.str e)])] := by
  intro m
  induction m with
  | zero =>
    intro k hk hr
    refine elx_h0 e l t k ?_
    rw [if_neg (by simp; omega), hr, List.drop_of_length_le (by omega)]
    rfl
  | succ m ih =>
    intro k hk hr
    have hlt : k < l.length := by omega
    refine elx_h0 e l t k ?_
    rw [if_pos (by simp; omega)]
    refine ⟨by simp; omega, l[k], by rw [getD_map _ hlt], ?_⟩
    rw [List.drop_eq_getElem_cons hlt, fstBad] at hr
    show if (!elemB ⟨e⟩ l[k]) = true then _ else _
    cases h : elemB ⟨e⟩ l[k] with
    | true =>
      rw [if_neg (by simp), next (by omega)]
      rw [h, if_pos rfl] at hr
      exact ih (k + 1) (by omega) hr
    | false =>
      rw [if_pos (by decide)]
      rw [h, if_neg (by simp)] at hr
      exact hr.symm
theorem elx_run : ∀ args os, pre_elx args os = true → Gets T_elx os.length (endO' os.length rs_elx fun r => r = val_elx args os) ic_elx [] (st0O nt_elx args os) := by
  intro args os hp
  unfold pre_elx at hp
  split at hp
  · rename_i t xs e
    simp only [Bool.and_eq_true, decide_eq_true_eq] at hp
    rw [ints_of hp.1]
    have hl : (xs.map (dec : PV → Int)).length ≤ 1000000 := by simpa using hp.2
    generalize xs.map (dec : PV → Int) = l at hl ⊢
    refine elx_s e l t ?_
    rw [List.length_map]
    refine elx_loop e l t hl _ l.length 0 (by omega) ?_
    simp [val_elx]
  · cases hp
theorem elc_run : ∀ args os, pre_elx args os = true → Gets T_elc os.length (endO' os.length rs_elc fun r => r = val_elc args os) ic_elc [] (st0O nt_elc args os) := by
  intro args os hp
  have hp' := hp
  unfold pre_elx at hp
  split at hp
  · rename_i t xs e
    simp only [Bool.and_eq_true, decide_eq_true_eq] at hp
    rw [ints_of hp.1] at hp' ⊢
    exact elc_s e _ t ⟨hp', rfl⟩
  · cases hp
theorem elements_run : ∀ a : Str × List Int × Unit, decide (a.2.1.length ≤ 1000000) = true → Gets T_elements 0 (endP' rs_elements (Fits (a.2.1.all (elemB a.1)))) ic_elements [] (st0 nt_elements (encL a)) := by
  rintro ⟨⟨e⟩, l, ⟨⟩⟩ hp
  refine elements_s e l ⟨?_, rfl, ?_⟩
  · simpa [pre_elx] using hp
  · simp [fstBad_all]
theorem arof_run : ∀ a : Str × List Int × List Int × Unit, (decide (a.2.1.length ≤ 1000000) && decide (a.2.2.1.length ≤ 1000000)) = true → Gets T_arof 0 (endP' rs_arof (Fits (arOf a.1 a.2.1 a.2.2.1))) ic_arof [] (st0 nt_arof (encL a)) := by
  rintro ⟨⟨e⟩, d, x, ⟨⟩⟩ hp
  simp only [Bool.and_eq_true, decide_eq_true_eq] at hp
  refine arof_s e d x ?_
  have hp1 := hp.1
  have hp2 := hp.2
  simp only [preT, valT, isL_cons, isL_nil, decL_cons, decL_nil, is_sl, all_is_enc, is_str, dec_str, dec_sl, map_dec_enc, List.isEmpty_iff, Bool.and_true, beq_self_eq_true, Bool.or_true, Bool.true_and, decide_eq_true_eq, AV.pv.injEq, enc_eq, exists_eq_left', hp1, hp2, true_and, Enc.sz, List.length_map, Fits, is_tup, is_arr, is_int, dec_tup, dec_arr, dec_int, List.all_nil, List.isEmpty_nil, Bool.true_or, List.map_nil, Bool.not_eq_true', beq_eq_false_iff_ne, bne_iff_ne, arOf, sInt, sBool]
  by_cases h1 : e = [105, 110, 116]
  · simp only [h1, ne_eq, not_true, if_false, false_and]
    split
    · rfl
    · split
      · rfl
      · split
        · simp_all
        · simp_all
  · simp only [h1, ne_eq, not_false_eq_true, if_true, true_and]
    split
    · rfl
    · split
      · rfl
      · split
        · rfl
        · split
          · simp_all
          · simp_all
theorem rof18_loop (e : List UInt8) (d x : List Int) (hd : d.length ≤ 1000000) (hx : x.length ≤ 1000000) (r : Arr × Int) : ∀ (m k : Nat), m + k = x.length → r = (if (x.drop k).all (elemB ⟨e⟩) then (⟨⟨e⟩, d, x⟩, 0) else (⟨⟨[]⟩, [], []⟩, 2)) →
    At T_rof18 0 (endP' rs_rof18 (Fits r)) ic_rof18 0 nt_rof18 [(0, .pv (.str e)), (1, .pv (enc d)), (2, .pv (enc x)), (6, .ptr 0 0), (10, .pv (.int .i64 k))] [.obj (.box [.pv (.str []), .pv (.sl 0 true []), .pv (.sl 0 true [])])] := by
  intro m
  induction m with
  | zero =>
    intro k hk hr
    refine rof18_h0 e d x k ?_
    rw [if_neg (by simp; omega)]
    rw [List.drop_of_length_le (by omega)] at hr
    subst hr
    refine ⟨pre_enc (d, ()) rfl (by simpa using hd), ?_⟩
    refine ex_enc (d, ()) rfl ?_
    refine ⟨pre_enc (x, ()) rfl (by simpa using hx), ?_⟩
    refine ex_enc (x, ()) rfl ?_
    exact ⟨by simp, by simp⟩
  | succ m ih =>
    intro k hk hr
    have hlt : k < x.length := by omega
    refine rof18_h0 e d x k ?_
    rw [if_pos (by simp; omega)]
    refine ⟨by simp [Enc.sz]; omega, x[k], by rw [getD_map _ hlt], ?_⟩
    refine ex_enc (⟨e⟩, x[k], ()) rfl ?_
    rw [List.drop_eq_getElem_cons hlt, List.all_cons] at hr
    simp only []
    cases h : elemB ⟨e⟩ x[k] with
    | true =>
      rw [if_neg (by simp), next (by omega)]
      rw [h, Bool.true_and] at hr
      exact ih (k + 1) (by omega) hr
    | false =>
      rw [if_pos (by decide)]
      rw [h, Bool.false_and, if_neg (by simp)] at hr
      subst hr
      exact ⟨by simp, by simp⟩
theorem rof18_run : ∀ a : Str × List Int × List Int × Unit, (decide (a.2.1.length ≤ 1000000) && decide (a.2.2.1.length ≤ 1000000)) = true → Gets T_rof18 0 (endP' rs_rof18 (Fits (arOf a.1 a.2.1 a.2.2.1))) ic_rof18 [] (st0 nt_rof18 (encL a)) := by
  rintro ⟨⟨e⟩, d, x, ⟨⟩⟩ hp
  simp only [Bool.and_eq_true, decide_eq_true_eq] at hp
  refine rof18_s e d x ?_
  have hp1 := hp.1
  have hp2 := hp.2
  have hl := fun (h0 : ¬ (e ≠ sInt ∧ e ≠ sBool)) (h1 : ¬ (sizeB d).2 ≠ 0) (h2 : ¬ (x.length : Int) ≠ (sizeB d).1) => rof18_loop e d x hp1 hp2 (arOf ⟨e⟩ d x) x.length 0 (by omega) (by simp only [arOf, h0, h1, h2, if_false, List.drop_zero])
  simp only [preT, valT, isL_cons, isL_nil, decL_cons, decL_nil, is_sl, all_is_enc, is_str, dec_str, dec_sl, map_dec_enc, List.isEmpty_iff, Bool.and_true, beq_self_eq_true, Bool.or_true, Bool.true_and, decide_eq_true_eq, AV.pv.injEq, enc_eq, exists_eq_left', true_and, Enc.sz, List.length_map, Bool.not_eq_true', beq_eq_false_iff_ne, bne_iff_ne]
  have key : (if ¬ (sizeB d).2 = 0 then Fits (arOf ⟨e⟩ d x) ((.tup [(.agg [(.str []), (.sl 0 true []), (.sl 0 true [])]), (.int .i64 (sizeB d).2)])) else if ¬ (x.length : Int) = (sizeB d).1 then Fits (arOf ⟨e⟩ d x) ((.tup [(.agg [(.str []), (.sl 0 true []), (.sl 0 true [])]), (.int .i64 1)])) else At T_rof18 0 (endP' rs_rof18 (Fits (arOf ⟨e⟩ d x))) ic_rof18 0 52 [(0, (.pv (.str e))), (1, (.pv (.sl 1 false (List.map enc d)))), (2, (.pv (.sl 1 false (List.map enc x)))), (6, (.ptr 0 0)), (10, (.pv (.int .i64 0)))] [(.obj (.box [(.pv (.str [])), (.pv (.sl 0 true [])), (.pv (.sl 0 true []))]))]) ∨ (e ≠ sInt ∧ e ≠ sBool) := by
    by_cases h0 : e ≠ sInt ∧ e ≠ sBool
    · exact .inr h0
    · refine .inl ?_
      split
      · rename_i h1
        exact ⟨by simp, by simp [arOf, h0, h1]⟩
      · rename_i h1
        split
        · rename_i h2
          exact ⟨by simp, by simp only [arOf, ne_eq, h1, h2, not_false_eq_true, if_true, if_false]; rw [if_neg h0]; simp⟩
        · rename_i h2
          exact hl h0 h1 h2
  by_cases h1 : e = sInt
  · rw [if_neg (by simp [h1, sInt])]
    exact key.resolve_right (by simp [h1])
  · rw [if_pos (by simpa [sInt] using h1)]
    by_cases h2 : e = sBool
    · rw [if_neg (by simp [h2, sBool])]
      exact key.resolve_right (by simp [h2])
    · rw [if_pos (by simpa [sBool] using h2)]
      exact ⟨by simp, by simp [arOf, h1, h2]⟩
theorem arv_run : ∀ a : Arr × Unit, arSm a.1 = true → Gets T_arv 0 (endP' rs_arv (Fits (arVl a.1))) ic_arv [] (st0 nt_arv (encL a)) := by
  rintro ⟨a, ⟨⟩⟩ hp
  refine arv_s a ⟨pre_enc (a.e, a.d, a.x, ()) rfl hp, ex_enc (a.e, a.d, a.x, ()) rfl ?_⟩
  exact ⟨rfl, rfl⟩
theorem rarv_run : ∀ a : Arr × Unit, arSm a.1 = true → Gets T_rarv 0 (endP' rs_rarv (Fits (arVl a.1))) ic_rarv [] (st0 nt_rarv (encL a)) := by
  rintro ⟨a, ⟨⟩⟩ hp
  refine rarv_s a ⟨pre_enc (a.e, a.d, a.x, ()) rfl hp, ex_enc (a.e, a.d, a.x, ()) rfl ?_⟩
  exact ⟨rfl, rfl⟩
theorem same17_loop (a b : List Int) (ha : a.length ≤ 1000000) (he : a.length = b.length) (r : Bool) : ∀ (m k : Nat), m + k = a.length → r = decide (a.drop k = b.drop k) →
    At T_same17 0 (endP' rs_same17 (Fits r)) ic_same17 0 nt_same17 [(0, .pv (enc a)), (1, .pv (enc b)), (5, .pv (.int .i64 k))] [] := by
  intro m
  induction m with
  | zero =>
    intro k hk hr
    refine same17_h0 a b k ?_
    rw [if_neg (by simp; omega)]
    rw [List.drop_of_length_le (by omega), List.drop_of_length_le (by omega)] at hr
    exact ⟨rfl, hr.symm⟩
  | succ m ih =>
    intro k hk hr
    have hlt : k < a.length := by omega
    have hlt2 : k < b.length := by omega
    refine same17_h0 a b k ?_
    rw [if_pos (by simp; omega)]
    refine ⟨by simp [Enc.sz]; omega, a[k], by rw [getD_map _ hlt], by simp [Enc.sz]; omega, b[k], by rw [getD_map _ hlt2], ?_⟩
    rw [List.drop_eq_getElem_cons hlt, List.drop_eq_getElem_cons hlt2] at hr
    show if (a[k] != b[k]) = true then _ else _
    by_cases h : a[k] = b[k]
    · rw [if_neg (by simp [h]), next (by omega)]
      exact ih (k + 1) (by omega) (by rw [hr]; simp only [List.cons.injEq, h, true_and])
    · rw [if_pos (by simpa using h)]
      exact ⟨rfl, by rw [hr]; simp only [List.cons.injEq, h, false_and, decide_false]; rfl⟩
theorem same17_run : ∀ a : List Int × List Int × Unit, decide (a.1.length ≤ 1000000) = true → Gets T_same17 0 (endP' rs_same17 (Fits (decide (a.1 = a.2.1)))) ic_same17 [] (st0 nt_same17 (encL a)) := by
  rintro ⟨a, b, ⟨⟩⟩ hp
  refine same17_s a b ?_
  by_cases he : a.length = b.length
  · rw [if_neg (by simp [he])]
    exact same17_loop a b (by simpa using hp) he _ a.length 0 (by omega) (by simp)
  · rw [if_pos (by simp; omega)]
    exact ⟨rfl, (decide_eq_false fun h => he (congrArg _ h)).symm⟩
theorem areq_run : ∀ a : Arr × Arr × Unit, arSm a.1 = true → Gets T_areq 0 (endP' rs_areq (Fits (decide (a.1 = a.2.1)))) ic_areq [] (st0 nt_areq (encL a)) := by
  rintro ⟨⟨⟨e⟩, d, x⟩, ⟨⟨e'⟩, d', x'⟩, ⟨⟩⟩ hp
  simp only [arSm, Bool.and_eq_true, decide_eq_true_eq] at hp
  refine areq_s ⟨⟨e⟩, d, x⟩ ⟨⟨e'⟩, d', x'⟩ ?_
  have hp1 := hp.1
  have hp2 := hp.2
  simp only [preT, valT, isL_cons, isL_nil, decL_cons, decL_nil, is_sl, all_is_enc, is_str, dec_str, dec_sl, map_dec_enc, List.isEmpty_iff, Bool.and_true, beq_self_eq_true, Bool.or_true, Bool.true_and, decide_eq_true_eq, AV.pv.injEq, enc_eq, exists_eq_left', hp1, hp2, true_and, Enc.sz, List.length_map, Fits, is_bool, dec_bool, beq_iff_eq, Arr.mk.injEq, Str.mk.injEq]
  split
  · split <;> simp [*]
  · simp [*]
theorem arfew_run : ∀ a : Arr × Int × Unit, true = true → Gets T_arfew 0 (endP' rs_arfew (Fits (arFew a.1 a.2.1))) ic_arfew [] (st0 nt_arfew (encL a)) := by
  rintro ⟨a, n, ⟨⟩⟩ _
  refine arfew_s a n ?_
  have e1 : ((↑a.e.s.length : Int) ≤ 20) = (a.e.s.length ≤ 20) := propext (by omega)
  have e2 : ((↑a.d.length : Int) ≤ 8) = (a.d.length ≤ 8) := propext (by omega)
  simp only [List.length_map, Fits, is_bool, dec_bool, true_and, arFew, decide_eq_true_eq, e1, e2]
  split
  · split <;> simp [*]
  · simp [*]
theorem vcopy19_loop (a : Arr) (v : View) (hd : v.d.length ≤ 1000000) (l : List Int) (hl : l.length ≤ 4096) (hin : ∀ x ∈ l, 0 ≤ x ∧ x < a.x.length) (r : Arr × Int) : ∀ (m k : Nat) (xs : List Int), m + k = l.length → xs.length = k → r = arOf a.e v.d (xs ++ (l.drop k).map fun n => a.x.getD n.toNat 0) →
    At T_vcopy19 0 (endP' rs_vcopy19 (Fits r)) ic_vcopy19 0 nt_vcopy19 [(2, .ptr 0 0), (3, .ptr 1 0), (4, .ptr 2 0), (6, .pv (enc l)), (7, .row 3 xs.length 0 xs.length), (8, .pv (.int .i64 k))] [.obj (.box [.pv (.str a.e.s), .pv (enc a.d), .pv (enc a.x)]), .obj (.box [.pv (.int .i64 v.o), .pv (enc v.d), .pv (enc v.s)]), .obj (.box [.pv (.str []), .pv (.sl 0 true []), .pv (.sl 0 true [])]), .obj (.row false 3 1 (xs.map enc))] := by
  intro m
  induction m with
  | zero =>
    intro k xs hk hxs hr
    refine vcopy19_h0b a v l xs.length xs k ?_
    rw [if_neg (by simp; omega)]
    rw [List.drop_of_length_le (by omega)] at hr
    simp only [List.map_nil, List.append_nil] at hr
    subst hr
    refine ⟨by simp, pre_enc (a.e, v.d, xs, ()) (by rw [List.take_of_length_le (by simp)]; rfl) (by simp; omega), ex_enc (a.e, v.d, xs, ()) (by rw [List.take_of_length_le (by simp)]; rfl) ?_⟩
    exact ⟨by simp [Enc.sz], by simp⟩
  | succ m ih =>
    intro k xs hk hxs hr
    have hlt : k < l.length := by omega
    obtain ⟨i1, i2⟩ := hin l[k] (List.getElem_mem hlt)
    have hlt2 : l[k].toNat < a.x.length := by omega
    refine vcopy19_h0b a v l xs.length xs k ?_
    rw [if_pos (by simp; omega)]
    refine ⟨by simp [Enc.sz]; omega, l[k], by rw [getD_map _ hlt], ?_⟩
    refine ⟨?_, a.x[l[k].toNat], ?_, by simp; omega, ?_⟩
    · show (decide (0 ≤ l[k]) && decide (l[k].toNat < _) && _) = true
      simp [Enc.sz]; omega
    · show AV.pv (PV.rptr (PV.cells (List.getD (List.map enc a.x) (l[k].toNat) default))) = _
      simp [List.getD, hlt2]
    · rw [next (by omega)]
      rw [List.drop_eq_getElem_cons hlt, List.map_cons] at hr
      have h := ih (k + 1) (xs ++ [a.x[l[k].toNat]]) (by omega) (by simp [hxs]) (by rw [hr]; simp [List.getD, hlt2])
      simp only [List.map_append, List.length_append, List.map_cons, List.map_nil, List.length_cons, List.length_nil] at h
      exact h
theorem vcopy19_loop0 (a : Arr) (v : View) (hd : v.d.length ≤ 1000000) (l : List Int) (hl : l.length ≤ 4096) (hin : ∀ x ∈ l, 0 ≤ x ∧ x < a.x.length) :
    At T_vcopy19 0 (endP' rs_vcopy19 (Fits (arOf a.e v.d (l.map fun n => a.x.getD n.toNat 0)))) ic_vcopy19 0 nt_vcopy19 [(2, .ptr 0 0), (3, .ptr 1 0), (4, .ptr 2 0), (6, .pv (enc l)), (7, .pv (.sl 0 true [])), (8, .pv (.int .i64 0))] [.obj (.box [.pv (.str a.e.s), .pv (enc a.d), .pv (enc a.x)]), .obj (.box [.pv (.int .i64 v.o), .pv (enc v.d), .pv (enc v.s)]), .obj (.box [.pv (.str []), .pv (.sl 0 true []), .pv (.sl 0 true [])])] := by
  refine vcopy19_h0a a v l 0 ?_
  cases l with
  | nil =>
    rw [if_neg (by simp)]
    refine ⟨pre_val (a.e, v.d, [], ()) (by simp [Enc.sz]) (by simp) (by simp; omega), ex_val (a.e, v.d, [], ()) (by simp) ?_⟩
    exact ⟨by simp [Enc.sz], by simp⟩
  | cons n l =>
    obtain ⟨i1, i2⟩ := hin n List.mem_cons_self
    have hlt2 : n.toNat < a.x.length := by omega
    rw [if_pos (by simp)]
    refine ⟨by simp [Enc.sz], n, rfl, ?_, a.x[n.toNat], ?_, ?_⟩
    · show (decide (0 ≤ n) && decide (n.toNat < _) && _) = true
      simp [Enc.sz]; omega
    · show AV.pv (PV.rptr (PV.cells (List.getD (List.map enc a.x) (n.toNat) default))) = _
      simp [List.getD, hlt2]
    · exact vcopy19_loop a v hd (n :: l) hl hin _ l.length 1 [a.x[n.toNat]] (by simp) rfl (by simp [List.getD, hlt2])
end Go.Pl

namespace Go.Pl
open Go.RowKit
open Enc (enc dec is)
open EncL (encL decL isL)
def InD : List Int → List Int → Prop
  | [], [] => True
  | d :: ds, i :: is => (0 ≤ i ∧ i < d) ∧ InD ds is
  | _, _ => False
theorem offL_ok : ∀ (d ix : List Int) (n : Int), InD d ix → (offL d ix n).2 = 0
  | [], [], _, _ => rfl
  | d :: ds, i :: is, n, h => by
    obtain ⟨⟨h1, h2⟩, h3⟩ := h
    have e1 : (decide (i < 0) || decide (i ≥ d)) = false := by simp; omega
    simp only [offL, e1, cond_false]
    exact offL_ok ds is _ h3
  | [], _ :: _, _, h => h.elim
  | _ :: _, [], _, h => h.elim
theorem idxR_in : ∀ (d : List Int) (k : Int), (∀ x ∈ d, 1 ≤ x) → 0 ≤ k → k ≤ 1000000 → InD d (idxR d k).2 ∧ 0 ≤ (idxR d k).1 ∧ (idxR d k).1 ≤ k
  | [], k, _, h0, h1 => ⟨trivial, h0, Int.le_refl _⟩
  | d :: ds, k, hd, h0, h1 => by
    obtain ⟨i1, i2, i3⟩ := idxR_in ds k (fun x hx => hd x (List.mem_cons_of_mem _ hx)) h0 h1
    have hd1 := hd d List.mem_cons_self
    simp only [idxR]
    have e1 : 0 ≤ (idxR ds k).1.tmod d ∧ (idxR ds k).1.tmod d < d := by
      rw [Int.tmod_eq_emod_of_nonneg i2]
      exact ⟨Int.emod_nonneg _ (by omega), Int.emod_lt_of_pos _ (by omega)⟩
    have e2 : 0 ≤ (idxR ds k).1.tdiv d ∧ (idxR ds k).1.tdiv d ≤ (idxR ds k).1 := by
      rw [Int.tdiv_eq_ediv_of_nonneg i2]
      exact ⟨Int.ediv_nonneg i2 (by omega), Int.ediv_le_self d i2⟩
    have e3 : w64 ((idxR ds k).1.tdiv d) = (idxR ds k).1.tdiv d := wrap64 (by omega) (by omega)
    rw [e3]
    exact ⟨⟨e1, i1⟩, e2.1, by omega⟩
theorem mul_btw {i a x : Int} (h0 : 0 ≤ i) (h1 : i ≤ a) : (0 ≤ x → 0 ≤ i * x ∧ i * x ≤ a * x) ∧ (x < 0 → a * x ≤ i * x ∧ i * x ≤ 0) := by
  refine ⟨fun h => ⟨Int.mul_nonneg h0 h, Int.mul_le_mul_of_nonneg_right h1 h⟩, fun h => ⟨?_, ?_⟩⟩
  · have := Int.mul_le_mul_of_nonneg_right h1 (show 0 ≤ -x by omega)
    simp only [Int.mul_neg] at this; omega
  · have := Int.mul_nonneg h0 (show 0 ≤ -x by omega)
    simp only [Int.mul_neg] at this; omega
theorem atL_in {n : Int} (hn : n ≤ 9223372036854775807) : ∀ (d s ix : List Int) (lo hi p : Int), (∀ x ∈ d, 1 ≤ x ∧ x ≤ 4096) → s.length = d.length → InD d ix → 0 ≤ lo → lo ≤ p → p ≤ hi → hi < n → vldL n d s lo hi = true → 0 ≤ atL ix s p ∧ atL ix s p < n
  | [], [], [], lo, hi, p, _, _, _, h0, h1, h2, h3, _ => ⟨by simp [atL]; omega, by simp [atL]; omega⟩
  | d :: ds, s :: ss, i :: is, lo, hi, p, hd, hs, hi', h0, h1, h2, h3, hv => by
    have hd1 := hd d List.mem_cons_self
    have hds := fun x hx => hd x (List.mem_cons_of_mem _ hx)
    have hss : ss.length = ds.length := by simpa using hs
    obtain ⟨⟨j0, j1⟩, j2⟩ := hi'
    simp only [atL]
    simp only [vldL] at hv
    by_cases hone : d = 1
    · subst hone
      obtain rfl : i = 0 := by omega
      simp only [beq_self_eq_true, cond_true] at hv
      have e : w64 (p + w64 (0 * s)) = p := by
        have z : w64 (0 * s) = 0 := by rw [Int.zero_mul]; rfl
        rw [z, Int.add_zero]; exact wrap64 (by omega) (by omega)
      rw [e]
      exact atL_in hn ds ss is lo hi p hds hss j2 h0 h1 h2 h3 hv
    · have h1b : (d == 1) = false := by simpa using hone
      rw [h1b, cond_false] at hv
      by_cases hp : s ≥ 0
      · simp only [hp, decide_true, cond_true] at hv
        by_cases hq : s > (n - 1 - hi).tdiv (d - 1)
        · simp [hq] at hv
        · simp only [hq, decide_false, cond_false] at hv
          have m := mul_in (a := d - 1) (b := n - 1 - hi) (s := s) (by omega) (by omega) (by omega)
          have b := (mul_btw (i := i) (a := d - 1) (x := s) j0 (by omega)).1 hp
          have e : w64 (p + w64 (i * s)) = p + i * s := by
            have z : w64 (i * s) = i * s := wrap64 (by omega) (by omega)
            rw [z]; exact wrap64 (by omega) (by omega)
          rw [e]
          exact atL_in hn ds ss is lo _ _ hds hss j2 h0 (by omega) (by omega) (by omega) hv
      · simp only [hp, decide_false, cond_false] at hv
        by_cases hq : s < -(lo.tdiv (d - 1))
        · simp [hq] at hv
        · simp only [hq, decide_false, cond_false] at hv
          have m := mul_in (a := d - 1) (b := lo) (s := -s) (by omega) (by omega) (by omega)
          rw [Int.mul_neg] at m
          have b := (mul_btw (i := i) (a := d - 1) (x := s) j0 (by omega)).2 (by omega)
          have e : w64 (p + w64 (i * s)) = p + i * s := by
            have z : w64 (i * s) = i * s := wrap64 (by omega) (by omega)
            rw [z]; exact wrap64 (by omega) (by omega)
          rw [e]
          exact atL_in hn ds ss is _ hi _ hds hss j2 (by omega) (by omega) (by omega) h3 hv
  | [], [], _ :: _, _, _, _, _, _, h, _, _, _, _, _ => h.elim
  | _ :: _, _ :: _, [], _, _, _, _, _, h, _, _, _, _, _ => h.elim
  | [], _ :: _, _, _, _, _, _, h, _, _, _, _, _, _ => by simp at h
  | _ :: _, [], _, _, _, _, _, h, _, _, _, _, _, _ => by simp at h
theorem offs_in {n : Int} (hn : n ≤ 9223372036854775807) {v : View} (h : validT n v = true) : ∀ x ∈ offsT v, 0 ≤ x ∧ x < n := by
  obtain ⟨o, d, s⟩ := v
  simp only [validT, validB, Bool.and_eq_true] at h
  obtain ⟨hf, hv⟩ := h
  intro x hx
  simp only [offsT, offsB, hf, cond_true, oset, List.mem_map, List.mem_range] at hx
  obtain ⟨k, hk, rfl⟩ := hx
  have hf' := hf
  simp only [formB, Bool.and_eq_true, beq_iff_eq, decide_eq_true_eq] at hf'
  have hb : ((sizeB d).2 != 0) = false := by simpa using hf'.1
  have hz : d.any (· == 0) = false := by
    rw [← size_zero hb]
    have := size_nonneg (d := d)
    simp; omega
  have hdp := dims_pos (sizeB_ok hb).2 hz
  rw [hz, Bool.false_or] at hv
  simp only [Bool.and_eq_true, Bool.not_eq_true', decide_eq_false_iff_not] at hv
  have hle := size_le (d := d)
  obtain ⟨i1, _, _⟩ := idxR_in d k (fun x hx => (hdp x hx).1) (by omega) (by omega)
  have hoff : (offB d (idxR d k).2).2 = 0 := by
    have hl : (((idxR d (k : Int)).2.length : Int) != d.length) = false := by simp
    simp only [offB, hb, cond_false, hl]
    exact offL_ok d _ 0 i1
  have e : (atB o d s (idxR d (k : Int)).2).1 = atL (idxR d (k : Int)).2 s o := by simp [atB, hf, hoff]
  rw [e]
  exact atL_in hn d s _ o o o hdp hf'.2 i1 (by omega) (by omega) (by omega) (by omega) hv.2.2
theorem offs_size {v : View} (h : formB v.d v.s = true) : ((offsT v).length : Int) = (sizeB v.d).1 := by
  simp only [offsT, offsB, h, cond_true, oset_length]
  have := size_nonneg (d := v.d)
  omega
theorem copy_of (a : Arr) (v : View) (hl : a.x.length ≤ 1000000) (ha : arVl a = true) (hv : validT a.x.length v = true) : arOf a.e v.d ((offsT v).map fun n => a.x.getD n.toNat 0) = (⟨a.e, v.d, (offsT v).map fun n => a.x.getD n.toNat 0⟩, 0) := by
  obtain ⟨e, d, x⟩ := a
  have hin := offs_in (n := (x.length : Int)) (by simp at hl; omega) hv
  simp only [validT, validB, Bool.and_eq_true] at hv
  have hf := hv.1
  have hf' := hf
  simp only [formB, Bool.and_eq_true, beq_iff_eq, decide_eq_true_eq] at hf'
  simp only [arVl, arOf, beq_iff_eq] at ha
  have hs := offs_size hf
  split at ha
  · simp at ha
  · rename_i h1
    split at ha
    · rename_i h2; exact absurd ha h2
    · split at ha
      · simp at ha
      · split at ha
        · rename_i h4
          have hall : ((offsT v).map fun n => x.getD n.toNat 0).all (elemB e) = true := by
            rw [List.all_eq_true]
            intro y hy
            rw [List.mem_map] at hy
            obtain ⟨n, hn, rfl⟩ := hy
            obtain ⟨k1, k2⟩ := hin n hn
            have hlt : n.toNat < x.length := by omega
            simp only [List.getD, List.getElem?_eq_getElem hlt, Option.getD_some]
            exact List.all_eq_true.1 h4 _ (List.getElem_mem hlt)
          simp only [arOf]
          rw [if_neg h1, if_neg (by simpa using hf'.1), if_neg (by simpa using hs), if_pos hall]
        · simp at ha
end Go.Pl

namespace Go.Pl
open Go.RowKit
def stepV0 (f : Chg) (rk : Nat) (ps : List PV) : VR := match ps with | [p] => stepB f rk p.vO p.vD p.vS 0 | _ => ((0, [], []), 0)
def stepV1 (f : Chg) (rk : Nat) (ps : List PV) : VR := match ps with | [p, .int _ k] => stepB f rk p.vO p.vD p.vS k | _ => ((0, [], []), 0)
def offsV (ps : List PV) : List Int := match ps with | [p] => offsB p.vO p.vD p.vS | _ => []
def fewV (ps : List PV) : Bool := match ps with | [p] => fewB p.vO p.vD p.vS | _ => false
def sameV (ps : List PV) : Bool := match ps with | [p, q] => (p.vO == q.vO && (decide (p.vD = q.vD) && decide (p.vS = q.vS))) | _ => false
def intsV (ps : List PV) : Bool := match ps with | [p, q] => decide (p.ns = q.ns) | _ => false
@[simp] theorem stepV0_v (f : Chg) (rk : Nat) (o : Int) (d s : List Int) (t u : Bool) : stepV0 f rk [.agg [.int .i64 o, .sl 1 t (nums d), .sl 1 u (nums s)]] = stepB f rk o d s 0 := by simp [stepV0]
@[simp] theorem stepV1_v (f : Chg) (rk : Nat) (o : Int) (d s : List Int) (t u : Bool) (k : Int) : stepV1 f rk [.agg [.int .i64 o, .sl 1 t (nums d), .sl 1 u (nums s)], .int .i64 k] = stepB f rk o d s k := by simp [stepV1]
@[simp] theorem offsV_v (o : Int) (d s : List Int) (t u : Bool) : offsV [.agg [.int .i64 o, .sl 1 t (nums d), .sl 1 u (nums s)]] = offsB o d s := by simp [offsV]
@[simp] theorem fewV_v (o : Int) (d s : List Int) (t u : Bool) : fewV [.agg [.int .i64 o, .sl 1 t (nums d), .sl 1 u (nums s)]] = fewB o d s := by simp [fewV]
@[simp] theorem sameV_v (o o' : Int) (d s d' s' : List Int) (t u t' u' : Bool) : sameV [.agg [.int .i64 o, .sl 1 t (nums d), .sl 1 u (nums s)], .agg [.int .i64 o', .sl 1 t' (nums d'), .sl 1 u' (nums s')]] = (o == o' && (decide (d = d') && decide (s = s'))) := by simp [sameV]
@[simp] theorem intsV_v (d s : List Int) (t u : Bool) : intsV [.sl 1 t (nums d), .sl 1 u (nums s)] = decide (d = s) := by simp [intsV]
def prodI : List Int → Int
  | [] => 1
  | x :: l => x * prodI l
theorem prodI_pos : ∀ {l : List Int}, (∀ x ∈ l, 1 ≤ x) → 1 ≤ prodI l
  | [], _ => by simp [prodI]
  | x :: l, h => by
    have h1 := h x List.mem_cons_self
    have h2 := prodI_pos (l := l) fun y hy => h y (List.mem_cons_of_mem _ hy)
    simp only [prodI]
    have : 1 * 1 ≤ x * prodI l := Int.mul_le_mul h1 h2 (by omega) (by omega)
    omega
theorem prodB_iff : ∀ {l : List Int} {p : Int}, 1 ≤ p → (∀ x ∈ l, 1 ≤ x) → p ≤ 4096 → ((∃ n, prodB p l = some n) ↔ p * prodI l ≤ 4096)
  | [], p, _, _, h => by simp [prodB, prodI, h]
  | x :: l, p, hp, hl, _ => by
    have h1 := hl x List.mem_cons_self
    have h2 := prodI_pos (l := l) fun y hy => hl y (List.mem_cons_of_mem _ hy)
    have hpx : 1 ≤ p * x := by have : 1 * 1 ≤ p * x := Int.mul_le_mul hp h1 (by omega) (by omega); omega
    have hle : p * x ≤ p * (x * prodI l) := by
      rw [← Int.mul_assoc]
      have : p * x * 1 ≤ p * x * prodI l := Int.mul_le_mul_of_nonneg_left h2 (by omega)
      omega
    simp only [prodB, prodI]
    by_cases hb : 4096 < p * x
    · simp only [hb, decide_true, cond_true]
      constructor
      · rintro ⟨n, hn⟩; cases hn
      · intro h; omega
    · simp only [hb, decide_false, cond_false]
      rw [prodB_iff hpx (fun y hy => hl y (List.mem_cons_of_mem _ hy)) (by omega), Int.mul_assoc]
def dimsOK (l : List Int) : Prop := l.length ≤ 6 ∧ (∀ x ∈ l, 0 ≤ x ∧ x ≤ 4096) ∧ ((0 : Int) ∈ l ∨ prodI l ≤ 4096)
theorem all_dim {l : List Int} : l.all dimB = true ↔ ∀ x ∈ l, 0 ≤ x ∧ x ≤ 4096 := by
  simp [List.all_eq_true, dimB]
theorem any_zero {l : List Int} : l.any (· == 0) = true ↔ (0 : Int) ∈ l := by
  simp [List.any_eq_true]
theorem size_ok {l : List Int} : (sizeB l).2 = 0 ↔ dimsOK l := by
  unfold sizeB dimsOK
  by_cases h6 : 6 < l.length
  · simp [h6]; omega
  · cases ha : l.all dimB with
    | false =>
      have : ¬ ∀ x ∈ l, 0 ≤ x ∧ x ≤ 4096 := fun h => by rw [← all_dim, ha] at h; cases h
      simp only [h6, decide_false, cond_false, this, false_and, and_false, iff_false]
      decide
    | true =>
      have hall := all_dim.1 ha
      cases hz : l.any (· == 0) with
      | true =>
        have h0 := any_zero.1 hz
        simp only [h6, decide_false, cond_false, cond_true, true_iff]
        exact ⟨by omega, hall, .inl h0⟩
      | false =>
        have h0 : ¬ (0 : Int) ∈ l := fun h => by rw [← any_zero, hz] at h; cases h
        have hpos : ∀ x ∈ l, 1 ≤ x := fun x hx => by
          have := hall x hx
          by_cases e : x = 0
          · subst e; exact absurd hx h0
          · omega
        have key := prodB_iff (l := l) (p := 1) (by omega) hpos (by omega)
        rw [Int.one_mul] at key
        simp only [h6, decide_false, cond_false, cond_true]
        cases hp : prodB 1 l with
        | none =>
          simp only [hp] at key
          constructor
          · intro h; simp at h
          · rintro ⟨_, _, h | h⟩
            · exact absurd h h0
            · obtain ⟨n, hn⟩ := key.2 h; cases hn
        | some n =>
          simp only [true_iff]
          exact ⟨by omega, hall, .inr (key.1 ⟨n, hp⟩)⟩
theorem form_iff {d s : List Int} : formB d s = true ↔ dimsOK d ∧ s.length = d.length := by
  simp only [formB, Bool.and_eq_true, beq_iff_eq, decide_eq_true_eq, size_ok]
end Go.Pl

namespace Go.Pl
open Go.RowKit
def ofV (ps : List PV) : VR := match ps with | [p] => ofB p.ns | _ => ((0, [], []), 0)
@[simp] theorem ofV_v (d : List Int) (t : Bool) : ofV [.sl 1 t (nums d)] = ofB d := by simp [ofV]
def doV (ps : List PV) : VR := match ps with | [p, x] => doB x.xQ x.xK p.vO p.vD p.vS | _ => ((0, [], []), 0)
@[simp] theorem doV_v (o : Int) (d s : List Int) (t u : Bool) (q k : Int) : doV [.agg [.int .i64 o, .sl 1 t (nums d), .sl 1 u (nums s)], .agg [.int .i64 q, .int .i64 k]] = doB q k o d s := by
  simp only [doV, PV.xQ, PV.xK, PV.fld, PV.asInt, List.getD_cons_zero, List.getD_cons_succ, vw_O, vw_D, vw_S]
def validV (ps : List PV) : Bool := match ps with | [n, p] => validB n.asInt p.vO p.vD p.vS | _ => false
@[simp] theorem validV_v (n o : Int) (d s : List Int) (t u : Bool) : validV [.int .i64 n, .agg [.int .i64 o, .sl 1 t (nums d), .sl 1 u (nums s)]] = validB n o d s := by simp [validV, PV.asInt]
def stp (p : Int × Int) : PV := .agg [.int .i64 p.1, .int .i64 p.2]
def stps (l : List (Int × Int)) : List PV := l.map stp
@[simp] theorem stps_length (l : List (Int × Int)) : (stps l).length = l.length := by simp [stps]
end Go.Pl

namespace Go.Pl
open Go.RowKit
def lo1 (d s : Int) : Int := if s < 0 then (d - 1) * s else 0
def hi1 (d s : Int) : Int := if s < 0 then 0 else (d - 1) * s
def spl : List Int → List Int → Int
  | d :: ds, s :: ss => lo1 d s + spl ds ss
  | _, _ => 0
def sph : List Int → List Int → Int
  | d :: ds, s :: ss => hi1 d s + sph ds ss
  | _, _ => 0
theorem lo1_le {d s : Int} (h : 1 ≤ d) : lo1 d s ≤ 0 := by
  unfold lo1
  split
  · exact Int.mul_nonpos_of_nonneg_of_nonpos (by omega) (by omega)
  · omega
theorem hi1_ge {d s : Int} (h : 1 ≤ d) : 0 ≤ hi1 d s := by
  unfold hi1
  split
  · omega
  · exact Int.mul_nonneg (by omega) (by omega)
theorem spl_le : ∀ {d s : List Int}, (∀ x ∈ d, 1 ≤ x) → spl d s ≤ 0
  | [], _, _ => by simp [spl]
  | _ :: _, [], _ => by simp [spl]
  | d :: ds, s :: ss, h => by
    have h1 := lo1_le (s := s) (h d List.mem_cons_self)
    have h2 := spl_le (d := ds) (s := ss) fun x hx => h x (List.mem_cons_of_mem _ hx)
    simp only [spl]; omega
theorem sph_ge : ∀ {d s : List Int}, (∀ x ∈ d, 1 ≤ x) → 0 ≤ sph d s
  | [], _, _ => by simp [sph]
  | _ :: _, [], _ => by simp [sph]
  | d :: ds, s :: ss, h => by
    have h1 := hi1_ge (s := s) (h d List.mem_cons_self)
    have h2 := sph_ge (d := ds) (s := ss) fun x hx => h x (List.mem_cons_of_mem _ hx)
    simp only [sph]; omega
theorem le_tdiv {x a b : Int} (ha : 0 ≤ a) (hb : 0 < b) : x ≤ a.tdiv b ↔ x * b ≤ a := by
  rw [Int.tdiv_eq_ediv_of_nonneg ha]
  exact Int.le_ediv_iff_mul_le hb
theorem vldL_iff {n : Int} : ∀ {d s : List Int} {lo hi : Int}, d.length = s.length → (∀ x ∈ d, 1 ≤ x) → 0 ≤ lo → hi < n → (vldL n d s lo hi = true ↔ 0 ≤ lo + spl d s ∧ hi + sph d s < n)
  | [], [], lo, hi, _, _, h1, h2 => by simp [vldL, spl, sph]; omega
  | [], _ :: _, lo, hi, hl, _, _, _ => by simp at hl
  | _ :: _, [], lo, hi, hl, _, _, _ => by simp at hl
  | d :: ds, s :: ss, lo, hi, hl, hd, h1, h2 => by
    have hd1 := hd d List.mem_cons_self
    have hds : ∀ x ∈ ds, 1 ≤ x := fun x hx => hd x (List.mem_cons_of_mem _ hx)
    have hl' : ds.length = ss.length := by simpa using hl
    have a1 := spl_le (s := ss) hds
    have a2 := sph_ge (s := ss) hds
    simp only [vldL, spl, sph]
    by_cases e1 : d = 1
    · subst e1
      simp only [beq_self_eq_true, cond_true, lo1, hi1]
      rw [vldL_iff hl' hds h1 h2]
      split <;> simp
    · have : (d == 1) = false := by simpa using e1
      simp only [this, cond_false]
      by_cases hs : s ≥ 0
      · have hn : ¬ s < 0 := by omega
        simp only [hs, decide_true, cond_true, lo1, hi1, hn, if_false]
        by_cases ht : s > (n - 1 - hi).tdiv (d - 1)
        · simp only [ht, decide_true, cond_true]
          have : ¬ s * (d - 1) ≤ n - 1 - hi := fun h => by have := (le_tdiv (by omega) (by omega)).2 h; omega
          rw [Int.mul_comm] at this
          constructor
          · intro h; cases h
          · rintro ⟨_, h⟩; omega
        · simp only [ht, decide_false, cond_false]
          have h3 := (le_tdiv (x := s) (a := n - 1 - hi) (b := d - 1) (by omega) (by omega)).1 (by omega)
          rw [Int.mul_comm] at h3
          have h4 : 0 ≤ (d - 1) * s := Int.mul_nonneg (by omega) hs
          rw [vldL_iff hl' hds h1 (by omega)]
          constructor <;> rintro ⟨_, _⟩ <;> constructor <;> omega
      · have hn : s < 0 := by omega
        simp only [hs, decide_false, cond_false, lo1, hi1, hn, if_true]
        by_cases ht : s < -(lo.tdiv (d - 1))
        · simp only [ht, decide_true, cond_true]
          have : ¬ (-s) * (d - 1) ≤ lo := fun h => by have := (le_tdiv h1 (by omega)).2 h; omega
          rw [Int.neg_mul, Int.mul_comm] at this
          constructor
          · intro h; cases h
          · rintro ⟨h, _⟩; omega
        · simp only [ht, decide_false, cond_false]
          have h3 := (le_tdiv (x := -s) (a := lo) (b := d - 1) h1 (by omega)).1 (by omega)
          rw [Int.neg_mul, Int.mul_comm] at h3
          rw [vldL_iff hl' hds (by omega) h2]
          constructor <;> rintro ⟨_, _⟩ <;> constructor <;> omega
def inside (n o : Int) (d s : List Int) : Prop := 0 ≤ o + spl d s ∧ o + sph d s < n
theorem validB_iff {n o : Int} {d s : List Int} (h : formB d s = true) : validB n o d s = true ↔ ((0 : Int) ∈ d ∨ inside n o d s) := by
  obtain ⟨hd, hl⟩ := form_iff.1 h
  unfold validB
  rw [h]
  by_cases h0 : (0 : Int) ∈ d
  · have := any_zero.2 h0; simp [this, h0]
  · have hz : d.any (· == 0) = false := by cases e : d.any (· == 0) with | false => rfl | true => exact absurd (any_zero.1 e) h0
    have hpos : ∀ x ∈ d, 1 ≤ x := fun x hx => by
      have := hd.2.1 x hx
      by_cases e : x = 0
      · subst e; exact absurd hx h0
      · omega
    have a1 := spl_le (s := s) hpos
    have a2 := sph_ge (s := s) hpos
    simp only [hz, Bool.true_and, Bool.false_or, h0, false_or, inside]
    by_cases ho : o < 0
    · simp only [ho, decide_true, Bool.not_true, Bool.false_and]
      constructor
      · intro h; cases h
      · rintro ⟨_, _⟩; omega
    · by_cases hn : o ≥ n
      · simp only [ho, hn, decide_true, decide_false, Bool.not_true, Bool.not_false, Bool.true_and, Bool.false_and]
        constructor
        · intro h; cases h
        · rintro ⟨_, _⟩; omega
      · simp only [ho, hn, decide_false, Bool.not_false, Bool.true_and]
        rw [vldL_iff hl.symm hpos (by omega) (by omega)]
end Go.Pl

namespace Go.Pl
open Go.RowKit
def Inv (n B o : Int) (d s : List Int) : Prop := formB d s = true ∧ ((0 : Int) ∈ d ∨ (inside n o d s ∧ ∀ x ∈ s, -B ≤ x ∧ x ≤ B))
theorem w64_id {x : Int} (h1 : -9223372036854775808 ≤ x) (h2 : x ≤ 9223372036854775807) : w64 x = x := wrap64 h1 h2
section
variable {n B o : Int} {p q : List Int} {a x : Int}
end
section
variable {n B o k : Int} {p q : List Int} {a x : Int} (hn : n ≤ 4096) (hi : Inv n B o (p ++ [a]) (q ++ [x])) (hl : p.length = q.length)
include hn hi hl
end
section
variable {n B o : Int} {p q : List Int} {a b x y : Int} (hi : Inv n B o (p ++ [a, b]) (q ++ [x, y])) (hl : p.length = q.length)
include hi hl
end
end Go.Pl

namespace Go.Pl
open Go.RowKit
set_option maxRecDepth 100000
end Go.Pl

namespace Go.Pl
open Go.RowKit
theorem prodI_le {x : Int} {l : List Int} (hx : 1 ≤ x) (hl : ∀ y ∈ l, 1 ≤ y) : prodI l ≤ x * prodI l := by
  have h := prodI_pos hl
  have : 1 * prodI l ≤ x * prodI l := Int.mul_le_mul_of_nonneg_right hx (by omega)
  omega
theorem sufP_eq : ∀ {l : List Int}, (∀ x ∈ l, 1 ≤ x) → prodI l ≤ 4096 → sufP l = prodI l
  | [], _, _ => rfl
  | x :: l, h, hp => by
    have hx := h x List.mem_cons_self
    have hl : ∀ y ∈ l, 1 ≤ y := fun y hy => h y (List.mem_cons_of_mem _ hy)
    have h1 := prodI_le hx hl
    have h2 := prodI_pos hl
    simp only [prodI] at hp ⊢
    rw [sufP, sufP_eq hl (by omega), Int.mul_comm, w64_id (by omega) (by omega)]
theorem str_spans : ∀ {l : List Int}, (∀ x ∈ l, 1 ≤ x) → prodI l ≤ 4096 → spl l (strd l) = 0 ∧ sph l (strd l) = prodI l - 1 ∧ ∀ y ∈ strd l, 1 ≤ y ∧ y ≤ 4096
  | [], _, _ => ⟨rfl, rfl, fun y hy => by simp [strd] at hy⟩
  | x :: l, h, hp => by
    have hx := h x List.mem_cons_self
    have hl : ∀ y ∈ l, 1 ≤ y := fun y hy => h y (List.mem_cons_of_mem _ hy)
    have h1 := prodI_le hx hl
    have h2 := prodI_pos hl
    simp only [prodI] at hp
    obtain ⟨k1, k2, k3⟩ := str_spans hl (by omega)
    have e := sufP_eq hl (by omega)
    have hn : ¬ prodI l < 0 := by omega
    refine ⟨by simp only [strd, spl, k1, e, lo1, hn, if_false]; rfl, ?_, fun y hy => ?_⟩
    · simp only [strd, sph, k2, e, hi1, hn, if_false, prodI, Int.sub_mul]; omega
    · simp only [strd, List.mem_cons] at hy
      rcases hy with rfl | hy
      · rw [e]; omega
      · exact k3 y hy
theorem prodB_val : ∀ {l : List Int} {p n : Int}, prodB p l = some n → n = p * prodI l
  | [], p, n, h => by simp [prodB] at h; simp [prodI, h]
  | x :: l, p, n, h => by
    simp only [prodB] at h
    by_cases hb : 4096 < p * x
    · simp [hb] at h
    · simp only [hb, decide_false, cond_false] at h
      rw [prodB_val h, prodI, Int.mul_assoc]
theorem size_val {l : List Int} (h : dimsOK l) (h0 : ¬ (0 : Int) ∈ l) : (sizeB l).1 = prodI l := by
  have hz := size_ok.2 h
  have h6 : ¬ 6 < l.length := by have := h.1; omega
  have ha := all_dim.2 h.2.1
  have hz0 : l.any (· == 0) = false := by cases e : l.any (· == 0) with | false => rfl | true => exact absurd (any_zero.1 e) h0
  unfold sizeB at hz ⊢
  simp only [h6, ha, hz0, decide_false, cond_false, cond_true] at hz ⊢
  cases hp : prodB 1 l with
  | none => rw [hp] at hz; simp at hz
  | some n => have := prodB_val hp; simp only; omega
theorem inv_of {d : List Int} (h : dimsOK d) : Inv (sizeB d).1 262144 0 d (strd d) := by
  refine ⟨form_iff.2 ⟨h, by simp⟩, ?_⟩
  by_cases h0 : (0 : Int) ∈ d
  · exact .inl h0
  · have hpos : ∀ x ∈ d, 1 ≤ x := fun x hx => by
      have := h.2.1 x hx
      by_cases e : x = 0
      · subst e; exact absurd hx h0
      · omega
    have hp : prodI d ≤ 4096 := by rcases h.2.2 with h' | h'; exact absurd h' h0; exact h'
    obtain ⟨k1, k2, k3⟩ := str_spans hpos hp
    refine .inr ⟨?_, fun y hy => by have := k3 y hy; omega⟩
    rw [size_val h h0]
    exact ⟨by omega, by omega⟩
theorem Inv.mono {n B B' o : Int} {d s : List Int} (h : Inv n B o d s) (hb : B ≤ B') : Inv n B' o d s := by
  refine ⟨h.1, ?_⟩
  rcases h.2 with k | ⟨k1, k2⟩
  · exact .inl k
  · exact .inr ⟨k1, fun x hx => by have := k2 x hx; omega⟩
theorem Inv.valid {n B o : Int} {d s : List Int} (h : Inv n B o d s) : validB n o d s = true := (validB_iff h.1).2 (h.2.imp id (·.1))
end Go.Pl

namespace Go.Pl
open Go.RowKit
open Enc (enc dec is)
open EncL (encL decL isL)
theorem own_at : ∀ (d : List Int) (k p : Int), (∀ x ∈ d, 1 ≤ x ∧ x ≤ 4096) → prodI d ≤ 4096 → 0 ≤ k → k ≤ 4096 → 0 ≤ p → p + prodI d ≤ 1000000 → (idxR d k).1 = k / prodI d ∧ atL (idxR d k).2 (strd d) p = p + k % prodI d
  | [], k, p, _, _, _, _, _, _ => by simp [idxR, prodI, atL, strd]
  | d :: l, k, p, hd, hp, h0, h1, p0, p1 => by
    have hd1 := hd d List.mem_cons_self
    have hl := fun x hx => hd x (List.mem_cons_of_mem _ hx)
    have hP := prodI_pos (l := l) fun x hx => (hl x hx).1
    have hle := prodI_le (x := d) (l := l) hd1.1 fun x hx => (hl x hx).1
    simp only [prodI] at hp p1
    have hPl : prodI l ≤ 4096 := by omega
    have hs : sufP l = prodI l := sufP_eq (fun x hx => (hl x hx).1) hPl
    have i0 := own_at l k 0 hl hPl h0 h1 (by omega) (by omega)
    have i1 := fun p' a b => (own_at l k p' hl hPl h0 h1 a b).2
    simp only [idxR, strd, atL, prodI, i0.1, hs]
    generalize prodI l = P at *
    have q0 : 0 ≤ k / P := Int.ediv_nonneg h0 (by omega)
    have q1 : k / P ≤ k := Int.ediv_le_self P h0
    have e1 : (k / P).tdiv d = k / P / d := Int.tdiv_eq_ediv_of_nonneg q0
    have e2 : (k / P).tmod d = k / P % d := Int.tmod_eq_emod_of_nonneg q0
    have r0 : 0 ≤ k / P % d := Int.emod_nonneg _ (by omega)
    have r1 : k / P % d < d := Int.emod_lt_of_pos _ (by omega)
    have d0 : 0 ≤ k / P / d := Int.ediv_nonneg q0 (by omega)
    have d1 : k / P / d ≤ k / P := Int.ediv_le_self d q0
    have s0 : 0 ≤ k % P := Int.emod_nonneg _ (by omega)
    have s1 : k % P < P := Int.emod_lt_of_pos _ (by omega)
    have f1 : P * (k / P) + k % P = k := Int.mul_ediv_add_emod k P
    have f2 : d * (k / P / d) + k / P % d = k / P := Int.mul_ediv_add_emod (k / P) d
    rw [e1, e2]
    have m0 : 0 ≤ k / P % d * P := Int.mul_nonneg r0 (by omega)
    have m1 : k / P % d * P ≤ (d - 1) * P := Int.mul_le_mul_of_nonneg_right (by omega) (by omega)
    have m2 : (d - 1) * P = d * P - P := by rw [Int.sub_mul, Int.one_mul]
    have w1 : w64 (k / P / d) = k / P / d := wrap64 (by omega) (by omega)
    have w2 : w64 (k / P % d * P) = k / P % d * P := wrap64 (by omega) (by omega)
    have w3 : w64 (p + k / P % d * P) = p + k / P % d * P := wrap64 (by omega) (by omega)
    have key : k = (k / P % d * P + k % P) + d * P * (k / P / d) := by
      have : P * (k / P) = P * (d * (k / P / d)) + P * (k / P % d) := by rw [← Int.mul_add, f2]
      have c1 : P * (d * (k / P / d)) = d * P * (k / P / d) := by rw [← Int.mul_assoc, Int.mul_comm P d]
      have c2 : P * (k / P % d) = k / P % d * P := Int.mul_comm _ _
      omega
    have hb : 0 ≤ k / P % d * P + k % P ∧ k / P % d * P + k % P < d * P := by omega
    have hdP : d * P ≠ 0 := by omega
    have k1 : k / (d * P) = k / P / d := by
      conv => lhs; rw [key]
      rw [Int.add_mul_ediv_left _ _ hdP, Int.ediv_eq_zero_of_lt hb.1 hb.2, Int.zero_add]
    have k2 : k % (d * P) = k / P % d * P + k % P := by
      conv => lhs; rw [key]
      rw [Int.add_mul_emod_self_left, Int.emod_eq_of_lt hb.1 hb.2]
    refine ⟨by rw [w1, k1], ?_⟩
    rw [w2, w3, k2]
    rw [i1 _ (by omega) (by omega)]
    omega
theorem own_offs {d : List Int} (h : dimsOK d) : offsT ⟨0, d, strd d⟩ = (List.range (sizeB d).1.toNat).map fun (k : Nat) => (k : Int) := by
  have hf : formB d (strd d) = true := form_iff.2 ⟨h, by simp⟩
  simp only [offsT, offsB, hf, cond_true, oset]
  refine List.map_congr_left fun k hk => ?_
  rw [List.mem_range] at hk
  have hle := size_le (d := d)
  by_cases h0 : (0 : Int) ∈ d
  · have hz := size_zero (d := d) (by simp [size_ok.2 h])
    rw [any_zero.2 h0] at hz
    simp at hz
    omega
  · have hpos : ∀ x ∈ d, 1 ≤ x ∧ x ≤ 4096 := fun x hx => by
      have := h.2.1 x hx
      by_cases e : x = 0
      · subst e; exact absurd hx h0
      · omega
    have hp : prodI d ≤ 4096 := by rcases h.2.2 with h' | h'; exact absurd h' h0; exact h'
    have hv := size_val h h0
    obtain ⟨i1, _, _⟩ := idxR_in d k (fun x hx => (hpos x hx).1) (by omega) (by omega)
    have hb : ((sizeB d).2 != 0) = false := by simp [size_ok.2 h]
    have hoff : (offB d (idxR d k).2).2 = 0 := by
      have hl : (((idxR d (k : Int)).2.length : Int) != d.length) = false := by simp
      simp only [offB, hb, cond_false, hl]
      exact offL_ok d _ 0 i1
    have e : (atB 0 d (strd d) (idxR d (k : Int)).2).1 = atL (idxR d (k : Int)).2 (strd d) 0 := by simp [atB, hf, hoff]
    rw [e, (own_at d k 0 hpos hp (by omega) (by omega) (by omega) (by omega)).2, Int.emod_eq_of_lt (by omega) (by omega)]
    omega
theorem map_range_getD (x : List Int) : (List.range x.length).map (fun (k : Nat) => x.getD k 0) = x := by
  refine List.ext_getElem (by simp) fun i h1 h2 => ?_
  simp [List.getD]
  rw [List.getElem?_eq_getElem h2]; rfl
theorem copy_own {a : Arr} (hl : a.x.length ≤ 1000000) (ha : arVl a = true) : (ofT a.d).2 = 0 ∧ copyT a (ofT a.d).1 = (a, 0) := by
  have ha' := ha
  simp only [arVl, arOf, beq_iff_eq] at ha'
  split at ha'
  · simp at ha'
  · split at ha'
    · rename_i h2; exact absurd ha' h2
    · rename_i h2
      split at ha'
      · simp at ha'
      · rename_i h3
        have hz : (sizeB a.d).2 = 0 := by simpa using h2
        have hd := size_ok.1 hz
        have hn : (a.x.length : Int) = (sizeB a.d).1 := by simpa using h3
        have e : ofT a.d = (⟨0, a.d, strd a.d⟩, 0) := by simp [ofT, ofB, hz, vrT]
        rw [e]
        refine ⟨rfl, ?_⟩
        have hv : validT a.x.length ⟨0, a.d, strd a.d⟩ = true := by
          rw [hn]
          exact (inv_of hd).valid
        simp only [copyT]
        rw [if_pos ⟨ha, hv⟩, own_offs hd, List.map_map, ← hn]
        have : ((fun n : Int => a.x.getD n.toNat 0) ∘ fun (k : Nat) => (k : Int)) = fun (k : Nat) => a.x.getD k 0 := by funext k; simp
        rw [this, show (a.x.length : Int).toNat = a.x.length by simp, map_range_getD]
theorem vOk_of {v : View} (h : vOk v = true) : v.d.length ≤ 1000000 ∧ v.s.length ≤ 1000000 := by simpa [vOk] using h
theorem arSm_of {a : Arr} (h : arSm a = true) : a.d.length ≤ 1000000 ∧ a.x.length ≤ 1000000 := by simpa [arSm] using h
theorem vcopy19_run : ∀ a : Arr × View × Unit, (arSm a.1 && vOk a.2.1) = true → Gets T_vcopy19 0 (endP' rs_vcopy19 (Fits (copyT a.1 a.2.1))) ic_vcopy19 [] (st0 nt_vcopy19 (encL a)) := by
  rintro ⟨a, v, ⟨⟩⟩ hp
  simp only [Bool.and_eq_true] at hp
  obtain ⟨ha, hv⟩ := hp
  have ha2 := arSm_of ha
  have hv2 := vOk_of hv
  refine vcopy19_s a v ⟨pre_enc (a, ()) rfl ha, ex_enc (a, ()) rfl ?_⟩
  simp only []
  cases h1 : arVl a with
  | false =>
    rw [if_pos (by decide)]
    exact ⟨by simp, by simp [copyT, h1]⟩
  | true =>
    rw [if_neg (by simp), List.length_map]
    refine ⟨pre_enc ((a.x.length : Int), v, ()) rfl (by simp [hv]; omega), ex_enc ((a.x.length : Int), v, ()) rfl ?_⟩
    simp only []
    cases h2 : validT a.x.length v with
    | false =>
      rw [if_pos (by decide)]
      exact ⟨by simp, by simp [copyT, h2]⟩
    | true =>
      rw [if_neg (by simp)]
      refine ⟨pre_enc (v, ()) rfl hv, ex_enc (v, ()) rfl ?_⟩
      have hl : (offsT v).length ≤ 4096 := by
        unfold offsT offsB
        cases formB v.d v.s with
        | false => simp
        | true => simp only [cond_true, oset_length]; have := size_le (d := v.d); omega
      have hin := offs_in (n := (a.x.length : Int)) (by omega) h2
      have h := vcopy19_loop0 a v hv2.1 (offsT v) hl hin
      rw [copy_of a v ha2.2 h1 h2] at h
      have e : copyT a v = (⟨a.e, v.d, (offsT v).map fun n => a.x.getD n.toNat 0⟩, 0) := by simp only [copyT]; rw [if_pos ⟨h1, h2⟩]
      rw [e]
      exact h
theorem copy_sm {a : Arr} {v : View} (hv : vOk v = true) : arSm (copyT a v).1 = true := by
  have hv2 := vOk_of hv
  simp only [copyT]
  split
  · have hl : (offsT v).length ≤ 4096 := by
      unfold offsT offsB
      cases formB v.d v.s with
      | false => simp
      | true => simp only [cond_true, oset_length]; have := size_le (d := v.d); omega
    simp [arSm]; omega
  · rfl
theorem lcopy_run : ∀ a : Arr × View × Unit, vIn a.2.1 = true → Gets T_lcopy 0 (endP' rs_lcopy (Fits true)) ic_lcopy [] (st0 nt_lcopy (encL a)) := by
  rintro ⟨a, v, ⟨⟩⟩ hp
  refine lcopy_s a v (ex_enc () rfl ?_)
  rw [if_neg (by simp)]
  refine ⟨pre_enc (a, 100, ()) rfl rfl, ex_enc (a, 100, ()) rfl ?_⟩
  simp only []
  cases h1 : arFew a 100 with
  | false => rw [if_pos (by decide)]; exact ⟨rfl, rfl⟩
  | true =>
    rw [if_neg (by simp)]
    refine ⟨pre_enc (v, ()) rfl hp, ex_enc (v, ()) rfl ?_⟩
    simp only []
    cases h2 : fewB v.o v.d v.s with
    | false => rw [if_pos (by decide)]; exact ⟨rfl, rfl⟩
    | true =>
      rw [if_neg (by simp)]
      have hv := few_vOk h2
      have ha : arSm a = true := by
        simp only [arFew, Bool.and_eq_true, decide_eq_true_eq] at h1
        simp [arSm]; omega
      have ha2 := arSm_of ha
      have hp0 : (arSm (a, v, ()).1 && vOk (a, v, ()).2.1) = true := by simp [ha, hv]
      refine ⟨pre_enc (a, v, ()) rfl hp0, ex_enc (a, v, ()) rfl ?_⟩
      refine ⟨pre_enc (a, v, ()) rfl hp0, ex_enc (a, v, ()) rfl ?_⟩
      simp only []
      have hc := copy_sm (a := a) hv
      refine ⟨pre_enc ((copyT a v).1, (copyT a v).1, ()) rfl hc, ex_enc ((copyT a v).1, (copyT a v).1, ()) rfl ?_⟩
      simp only [decide_true]
      rw [if_neg (by simp), if_neg (by simp)]
      refine ⟨pre_enc (a.d, ()) rfl rfl, ex_enc (a.d, ()) rfl ?_⟩
      simp only []
      have hov : vOk (ofT a.d).1 = true := by
        by_cases h9 : (sizeB a.d).2 = 0
        · have h10 : ((sizeB a.d).2 != 0) = false := by simp [h9]
          simp only [ofT, ofB, vrT, vOk, h10, cond_false, strd_length]
          simp; omega
        · have h10 : ((sizeB a.d).2 != 0) = true := by simpa using h9
          simp only [ofT, ofB, vrT, vOk, h10, cond_true]
          rfl
      refine ⟨pre_enc (a, (ofT a.d).1, ()) rfl (by simp [ha, hov]), ex_enc (a, (ofT a.d).1, ()) rfl ?_⟩
      refine ⟨pre_enc (a, ()) rfl ha, ex_enc (a, ()) rfl ?_⟩
      simp only []
      cases h3 : arVl a with
      | false => rw [if_pos (by decide)]; exact ⟨rfl, rfl⟩
      | true =>
        rw [if_neg (by simp)]
        obtain ⟨c1, c2⟩ := copy_own ha2.2 h3
        rw [if_pos (by simp [c1])]
        simp only [c2]
        rw [if_pos (by decide)]
        refine ⟨pre_enc (a, a, ()) rfl ha, ex_enc (a, a, ()) rfl ?_⟩
        exact ⟨rfl, by simp⟩
end Go.Pl

namespace Go.Pl
open Go.RowKit
open Enc (enc dec is)
open EncL (encL decL isL)
def pre_voff : List AV → List AObj → Bool
  | [.pv (.agg [.int .i64 _, .sl 1 _ _, .sl 1 _ _])], [] => true
  | _, _ => false
def val_voff : List AV → List AObj → AV × List AObj × List AObj
  | [.pv (.agg [o, d, s])], [] => (.fn 109 [] [.ptr 0 0], [], [.box [.pv o, .pv d, .pv s]])
  | _, _ => default
def pre_it : List (List PV) → Bool
  | [ps] => is View (.agg ps) && vOk (dec (.agg ps)) && formB (dec (.agg ps) : View).d (dec (.agg ps) : View).s
  | _ => false
def F_it : List (List PV) → List Int
  | [ps] => offsT (dec (.agg ps))
  | _ => []
end Go.Pl

namespace Go.Pl
open Go.RowKit
open Enc (enc dec is)
open EncL (encL decL isL)
set_option maxRecDepth 100000
def ic_voff : IC := (.seq (.reg [⟨(some 1), (.box 3 (.t 0)), 0, none⟩, ⟨(some 2), (.mv (.c .nilfn)), 1, none⟩] none) (.seq (.reg [⟨(some 3), (.mkfn 109 [] [(.t 1)]), 0, none⟩, ⟨(some 2), (.mv (.t 3)), 0, none⟩] none) .ret))
def rs_voff : List IRes := [(.tmp 2)]
abbrev nt_voff : Nat := 4
def T_voff : Tab := tab []
theorem voff_s {G : AV × List AObj × List AObj → Prop} (o : Int) (t u : Bool) (d s : List PV) (h : G (((.fn 109 [] [(.ptr 0 0)]), ([], [(.box [(.pv (.int .i64 o)), (.pv (.sl 1 t d)), (.pv (.sl 1 u s))])])))) : Gets T_voff 0 (endO' 0 rs_voff G) ic_voff [] (st0O 4 [.pv (.agg [.int .i64 o, .sl 1 t d, .sl 1 u s])] []) := Gets.to (.nil) h (by kernel_rfl)
def ic_vcra : IC := (.block 1 (.reg [⟨(some 29), (.faddr 2 (.t 6)), 0, none⟩, ⟨(some 30), (.load false [(.sl 1)] (.t 29)), 0, none⟩, ⟨(some 31), (.faddr 2 (.t 2)), 0, none⟩, ⟨(some 32), (.load false [(.sl 1)] (.t 31)), 0, none⟩, ⟨(some 33), (.mv (.t 7)), 0, none⟩, ⟨(some 34), (.iaddr 1 (.t 32) (.t 33)), 0, none⟩, ⟨(some 35), (.load false [(.int .i64)] (.t 34)), 0, none⟩, ⟨(some 36), (.bslice 3 1 1 (.int .i64 0) [(0, (.t 35))]), 0, none⟩, ⟨(some 37), (.append 3 1 8 (.t 30) (.t 36)), 1, none⟩, ⟨(some 38), (.faddr 2 (.t 6)), 2, none⟩, ⟨none, (.store 1 (.t 38) (.t 37)), 2, none⟩] (some [[], [0], [], [2], [], [3, 4, 2], [5, 3, 4, 2], [6, 5, 3, 4, 2], [1, 7, 0, 6, 5, 3, 4, 2], [0, 1, 2, 3, 4, 5, 6, 7, 8], [9, 8, 0, 1, 2, 3, 4, 5, 6, 7]])))
def rs_vcra : List IRes := []
def T_vcra : Tab := tab [(105, .pure (preT (fun x : Arr × Unit => arSm x.1)) (valT (fun x : Arr × Unit => arVl x.1))), (27, .pure (preT (fun x : Int × View × Unit => decide (x.1 ≤ 9223372036854775807) && vOk x.2.1)) (valT (fun x : Int × View × Unit => validT x.1 x.2.1))), (74, .pure (preT (fun x : List Int × Unit => decide (x.1.length ≤ 1000000))) (valT (fun x : List Int × Unit => x.1))), (81, .own pre_voff val_voff)]
theorem vcra_r0 {G : AV × List AObj × List AObj → Prop} (E : ExtE) (a : Arr) (d : List Int) (n : Int)  (h : (decide (0 ≤ n) && decide (Int.toNat n < List.length (List.map enc (Arr.x a))) && Enc.sz Int == 1) = true ∧ (∃ y0 : Int, AV.pv (PV.rptr (PV.cells (List.getD (List.map enc (Arr.x a)) (Int.toNat n) default))) = AV.pv (PV.rptr (PV.cells ((enc) y0))) ∧ (E 99 ⟨envJ 40 0 [], [(.obj (.box [(.pv (.str (Str.s (Arr.e a)))), (.pv (.sl 1 false (List.map enc (Arr.d a)))), (.pv (.sl 1 false (List.map enc (Arr.x a))))])), (.obj (.box [(.pv (.str [])), (.pv (.sl 0 true [])), (.pv (.sl 0 true []))])), (.obj (.box [(.pv (.str (Str.s (Arr.e a)))), (.pv (.sl 1 false (List.map enc d))), (.row 3 1 0 1)])), (.obj (.row false 3 1 [(.int .i64 (PV.asInt (List.getD (PV.cells (enc y0)) 0 default)))]))]⟩ (fun x S' => AfX T_vcra E 3 (endO' 3 rs_vcra G) ic_vcra 99 x S')))) : GetsX T_vcra E 3 (endO' 3 rs_vcra G) (.inl ic_vcra) [.seq (.ext 99 [])] ⟨envJ 40 0 [(2, .ptr 0 0), (4, .ptr 1 0), (6, .ptr 2 0), (7, .pv (.int .i64 n)), (28, .pv (.int .i64 n))], [.obj (.box [.pv (.str a.e.s), .pv (enc a.d), .pv (enc a.x)]), .obj (.box [.pv (.str []), .pv (.sl 0 true []), .pv (.sl 0 true [])]), .obj (.box [.pv (.str a.e.s), .pv (enc d), .pv (.sl 0 true [])])]⟩ := GetsX.mo (.req (.abs (Int) (fun YY => AV.pv (PV.rptr (PV.cells ((enc) YY)))) (.lit (.lit (.lit (.lit (.lit (.lit (.nil))))))))) h (by kernel_rfl)
theorem vcrb_r0 {G : AV × List AObj × List AObj → Prop} (E : ExtE) (a : Arr) (d : List Int) (n : Int) (m : Nat) (xs : List Int)  (h : (decide (0 ≤ n) && decide (Int.toNat n < List.length (List.map enc (Arr.x a))) && Enc.sz Int == 1) = true ∧ (∃ y0 : Int, AV.pv (PV.rptr (PV.cells (List.getD (List.map enc (Arr.x a)) (Int.toNat n) default))) = AV.pv (PV.rptr (PV.cells ((enc) y0))) ∧ ((List.length (List.map enc xs) == m && m == m && decide ((m + List.length (List.drop 0 (List.take 1 [Sh.co (Sh.int .i64) (List.getD (PV.cells (enc y0)) 0 default)]))) * 8 ≤ 1099511627776) && decide (m + List.length (List.drop 0 (List.take 1 [Sh.co (Sh.int .i64) (List.getD (PV.cells (enc y0)) 0 default)])) ≤ 1099511627776)) = true ∧ (E 99 ⟨envJ 40 0 [], [(.obj (.box [(.pv (.str (Str.s (Arr.e a)))), (.pv (.sl 1 false (List.map enc (Arr.d a)))), (.pv (.sl 1 false (List.map enc (Arr.x a))))])), (.obj (.box [(.pv (.str [])), (.pv (.sl 0 true [])), (.pv (.sl 0 true []))])), (.obj (.box [(.pv (.str (Str.s (Arr.e a)))), (.pv (.sl 1 false (List.map enc d))), (.row 3 (m + List.length (List.drop 0 (List.take 1 [Sh.co (Sh.int .i64) (List.getD (PV.cells (enc y0)) 0 default)]))) 0 (m + List.length (List.drop 0 (List.take 1 [Sh.co (Sh.int .i64) (List.getD (PV.cells (enc y0)) 0 default)]))))])), (.obj (.row false 3 1 (List.map enc xs ++ List.drop 0 (List.take 1 [Sh.co (Sh.int .i64) (List.getD (PV.cells (enc y0)) 0 default)]))))]⟩ (fun x S' => AfX T_vcra E 4 (endO' 4 rs_vcra G) ic_vcra 99 x S'))))) : GetsX T_vcra E 4 (endO' 4 rs_vcra G) (.inl ic_vcra) [.seq (.ext 99 [])] ⟨envJ 40 0 [(2, .ptr 0 0), (4, .ptr 1 0), (6, .ptr 2 0), (7, .pv (.int .i64 n)), (28, .pv (.int .i64 n))], [.obj (.box [.pv (.str a.e.s), .pv (enc a.d), .pv (enc a.x)]), .obj (.box [.pv (.str []), .pv (.sl 0 true []), .pv (.sl 0 true [])]), .obj (.box [.pv (.str a.e.s), .pv (enc d), .row 3 m 0 m]), .obj (.row false 3 1 (xs.map enc))]⟩ := GetsX.mo (.req (.abs (Int) (fun YY => AV.pv (PV.rptr (PV.cells ((enc) YY)))) (.lit (.lit (.lit (.req (.nil))))))) h (by kernel_rfl)
def ic_vcx : IC := (.seq (.reg [⟨(some 2), (.box 3 (.t 0)), 0, none⟩, ⟨(some 3), (.box 3 (.t 1)), 1, none⟩, ⟨(some 4), (.alloc (.agg [(.str []), (.sl 0 true []), (.sl 0 true [])])), 2, none⟩, ⟨(some 5), (.mv (.c (.int .i64 0))), 3, none⟩] none) (.seq (.seq (.reg [⟨(some 8), (.load true [.str, (.sl 1), (.sl 1)] (.t 2)), 0, none⟩, ⟨(some 9), (.call (.c (.fn 105)) [(.t 8)]), 0, none⟩, ⟨(some 10), (.un .not (.t 9)), 2, none⟩, ⟨(some 11), (.mv (.t 10)), 2, none⟩, ⟨(some 12), (.faddr 2 (.t 2)), 2, (some (11, false))⟩, ⟨(some 13), (.load false [(.sl 1)] (.t 12)), 2, (some (11, false))⟩, ⟨(some 14), (.len 1 (.t 13)), 2, (some (11, false))⟩, ⟨(some 15), (.load true [(.int .i64), (.sl 1), (.sl 1)] (.t 3)), 2, (some (11, false))⟩, ⟨(some 16), (.call (.c (.fn 27)) [(.t 14), (.t 15)]), 2, (some (11, false))⟩, ⟨(some 17), (.un .not (.t 16)), 4, (some (11, false))⟩, ⟨(some 18), (.pick (.t 11) (.c (.bool true)) (.t 17)), 4, none⟩] none) (.cond (.t 18) (.seq (.reg [⟨(some 19), (.build [(.str []), (.sl 0 true []), (.sl 0 true [])] []), 0, none⟩, ⟨none, (.store 3 (.t 4) (.t 19)), 0, none⟩, ⟨(some 5), (.mv (.c (.int .i64 1))), 0, none⟩] none) .ret) .skip)) (.seq (.reg [⟨(some 20), (.faddr 0 (.t 2)), 0, none⟩, ⟨(some 21), (.load false [.str] (.t 20)), 0, none⟩, ⟨(some 22), (.faddr 1 (.t 3)), 0, none⟩, ⟨(some 23), (.load false [(.sl 1)] (.t 22)), 0, none⟩, ⟨(some 24), (.call (.c (.fn 74)) [(.t 23)]), 0, none⟩, ⟨(some 25), (.build [(.str []), (.sl 0 true []), (.sl 0 true [])] [(0, (1, (.t 21))), (1, (1, (.t 24)))]), 2, none⟩, ⟨(some 6), (.alloc (.agg [(.str []), (.sl 0 true []), (.sl 0 true [])])), 2, none⟩, ⟨none, (.store 3 (.t 6) (.t 25)), 3, none⟩] (some [[], [0], [], [2], [3, 2], [1, 4, 0, 3, 2], [], [6, 5, 4, 0, 1, 2, 3]])) (.seq (.seq (.reg [⟨(some 26), (.load true [(.int .i64), (.sl 1), (.sl 1)] (.t 3)), 0, none⟩, ⟨(some 27), (.call (.c (.fn 81)) [(.t 26)]), 0, none⟩] none) (.block 0 (.ext 0 [27, 28, 6, 29, 2, 31, 7, 32, 33, 34, 35, 30, 36, 38, 37, 4]))) (.seq (.reg [⟨(some 39), (.load true [.str, (.sl 1), (.sl 1)] (.t 6)), 0, none⟩, ⟨none, (.store 3 (.t 4) (.t 39)), 0, none⟩, ⟨(some 5), (.mv (.c (.int .i64 0))), 0, none⟩] none) .ret)))))
def rs_vcx : List IRes := [(.cell true 3 4), (.tmp 5)]
abbrev nt_vcx : Nat := 40
def T_vcx : Tab := tab [(105, .pure (preT (fun x : Arr × Unit => arSm x.1)) (valT (fun x : Arr × Unit => arVl x.1))), (27, .pure (preT (fun x : Int × View × Unit => decide (x.1 ≤ 9223372036854775807) && vOk x.2.1)) (valT (fun x : Int × View × Unit => validT x.1 x.2.1))), (74, .pure (preT (fun x : List Int × Unit => decide (x.1.length ≤ 1000000))) (valT (fun x : List Int × Unit => x.1))), (81, .own pre_voff val_voff)]
theorem vcx_s {G : PV → Prop} (E : ExtE) (a : Arr) (v : View) (h : (Go.Pl.preT (fun (x : Arr × Unit) => arSm (Prod.fst x)) [(.agg [(.str (Str.s (Arr.e a))), (.sl 1 false (List.map enc (Arr.d a))), (.sl 1 false (List.map enc (Arr.x a)))])]) = true ∧ (∃ y0 : Bool, AV.pv (valT (fun (x : Arr × Unit) => arVl (Prod.fst x)) [(.agg [(.str (Str.s (Arr.e a))), (.sl 1 false (List.map enc (Arr.d a))), (.sl 1 false (List.map enc (Arr.x a)))])]) = AV.pv (enc y0) ∧ (if (!y0) = true then G ((.tup [(.agg [(.str []), (.sl 0 true []), (.sl 0 true [])]), (.int .i64 1)])) else ((Go.Pl.preT (fun (x : Int × View × Unit) => decide (Prod.fst x ≤ 9223372036854775807) && vOk (Prod.fst (Prod.snd x))) [(.int .i64 (↑(List.length (List.map enc (Arr.x a))) : Int)), (.agg [(.int .i64 (View.o v)), (.sl 1 false (List.map enc (View.d v))), (.sl 1 false (List.map enc (View.s v)))])]) = true ∧ (∃ y1 : Bool, AV.pv (valT (fun (x : Int × View × Unit) => validT (Prod.fst x) (Prod.fst (Prod.snd x))) [(.int .i64 (↑(List.length (List.map enc (Arr.x a))) : Int)), (.agg [(.int .i64 (View.o v)), (.sl 1 false (List.map enc (View.d v))), (.sl 1 false (List.map enc (View.s v)))])]) = AV.pv (enc y1) ∧ (if (!y1) = true then G ((.tup [(.agg [(.str []), (.sl 0 true []), (.sl 0 true [])]), (.int .i64 1)])) else ((Go.Pl.preT (fun (x : List Int × Unit) => decide (List.length (Prod.fst x) ≤ 1000000)) [(.sl 1 false (List.map enc (View.d v)))]) = true ∧ (∃ y2 : List Int, AV.pv (valT (fun (x : List Int × Unit) => Prod.fst x) [(.sl 1 false (List.map enc (View.d v)))]) = AV.pv (enc y2) ∧ ((pre_voff [(.pv (.agg [(.int .i64 (View.o v)), (.sl 1 false (List.map enc (View.d v))), (.sl 1 false (List.map enc (View.s v)))]))] []) = true ∧ (E 0 ⟨envJ 40 0 [(2, (.ptr 0 0)), (4, (.ptr 1 0)), (6, (.ptr 2 0)), (7, .undef), (27, (.fn 109 [] [(.ptr 3 0)])), (28, .undef), (29, .undef), (30, .undef), (31, .undef), (32, .undef), (33, .undef), (34, .undef), (35, .undef), (36, .undef), (37, .undef), (38, .undef)], [(.obj (.box [(.pv (.str (Str.s (Arr.e a)))), (.pv (.sl 1 false (List.map enc (Arr.d a)))), (.pv (.sl 1 false (List.map enc (Arr.x a))))])), (.obj (.box [(.pv (.str [])), (.pv (.sl 0 true [])), (.pv (.sl 0 true []))])), (.obj (.box [(.pv (.str (Str.s (Arr.e a)))), (.pv (.sl 1 false (List.map enc y2))), (.pv (.sl 0 true []))])), (.obj (.box [(.pv (.int .i64 (View.o v))), (.pv (.sl 1 false (List.map enc (View.d v)))), (.pv (.sl 1 false (List.map enc (View.s v))))]))]⟩ (fun x S' => AfX T_vcx E 0 (endP' rs_vcx G) ic_vcx 0 x S'))))))))))) : GetsX T_vcx E 0 (endP' rs_vcx G) (.inl ic_vcx) [] (st0 40 [enc a, enc v]) := GetsX.mp (.req (.abs (Bool) (fun YY => AV.pv (enc YY)) (.ask (.lit (.lit (.lit (.lit (.lit (.lit (.lit (.nil)))))))) (.lit (.lit (.lit (.lit (.req (.abs (Bool) (fun YY => AV.pv (enc YY)) (.lit (.lit (.ask (.nil) (.req (.abs (List Int) (fun YY => AV.pv (enc YY)) (.req (.keep (.nil))))))))))))))))) h (by kernel_rfl)
theorem vcx_x0a {G : PV → Prop} (E : ExtE) (a : Arr) (v : View) (d : List Int) (h : G ((.tup [(.agg [(.str (Str.s (Arr.e a))), (.sl 1 false (List.map enc d)), (.sl 0 true [])]), (.int .i64 0)]))) : AfX T_vcx E 0 (endP' rs_vcx G) ic_vcx 0 .normal ⟨envJ 40 0 [(2, .ptr 0 0), (4, .ptr 1 0), (6, .ptr 2 0)], [.obj (.box [.pv (.str a.e.s), .pv (enc a.d), .pv (enc a.x)]), .obj (.box [.pv (.str []), .pv (.sl 0 true []), .pv (.sl 0 true [])]), .obj (.box [.pv (.str a.e.s), .pv (enc d), .pv (.sl 0 true [])])]⟩ := GetsX.mp (.nil) h (by kernel_rfl)
theorem vcx_x0b {G : PV → Prop} (E : ExtE) (a : Arr) (v : View) (d : List Int) (m : Nat) (xs : List Int) (h : (List.length (List.map enc xs) == m) = true ∧ (G ((.tup [(.agg [(.str (Str.s (Arr.e a))), (.sl 1 false (List.map enc d)), (.sl 1 false (List.drop 0 (List.take m (List.map enc xs))))]), (.int .i64 0)])))) : AfX T_vcx E 0 (endP' rs_vcx G) ic_vcx 0 .normal ⟨envJ 40 0 [(2, .ptr 0 0), (4, .ptr 1 0), (6, .ptr 2 0)], [.obj (.box [.pv (.str a.e.s), .pv (enc a.d), .pv (enc a.x)]), .obj (.box [.pv (.str []), .pv (.sl 0 true []), .pv (.sl 0 true [])]), .obj (.box [.pv (.str a.e.s), .pv (enc d), .row 3 m 0 m]), .obj (.row false 3 1 (xs.map enc))]⟩ := GetsX.mp (.req (.nil)) h (by kernel_rfl)
end Go.Pl

namespace Go.Pl
open Go.RowKit
open Enc (enc dec is)
open EncL (encL decL isL)
theorem voff_run : ∀ args os, pre_voff args os = true → Gets T_voff os.length (endO' os.length rs_voff fun r => r = val_voff args os) ic_voff [] (st0O nt_voff args os) := by
  intro args os hp
  unfold pre_voff at hp
  split at hp
  · rename_i o t d u s
    exact voff_s o t u d s rfl
  · cases hp
def getX (a : Arr) (n : Int) : Int := a.x.getD n.toNat 0
abbrev vcBase (a : Arr) (y : List AV) : Heap := [.obj (.box [.pv (.str a.e.s), .pv (enc a.d), .pv (enc a.x)]), .obj (.box [.pv (.str []), .pv (.sl 0 true []), .pv (.sl 0 true [])]), .obj (.box y)]
def vcI (a : Arr) (d : List Int) (xs : List Int) (σ : Heap) : Prop :=
  (xs = [] ∧ σ = vcBase a [.pv (.str a.e.s), .pv (enc d), .pv (.sl 0 true [])]) ∨ (xs ≠ [] ∧ σ = vcBase a [.pv (.str a.e.s), .pv (enc d), .row 3 xs.length 0 xs.length] ++ [.obj (.row false 3 1 ((xs.map (getX a)).map enc))])
def vcE : ExtE := fun n st q => n = 0 ∧ RangeE T_vcx 0 (.t 27) 109 [28] [(7, 28)] ic_vcra (fun x : Int => [.pv (.int .i64 x)]) pre_it F_it st q
theorem offs_len (v : View) : (offsT v).length ≤ 4096 := by
  obtain ⟨o, d, s⟩ := v
  simp only [offsT, offsB]
  cases formB d s with
  | false => simp
  | true =>
    simp only [cond_true, oset_length]
    have := size_le (d := d)
    have := size_nonneg (d := d)
    omega
theorem vcI_noMap {a : Arr} {d xs : List Int} {σ : Heap} (h : vcI a d xs σ) : noMap σ := by
  intro l es
  rcases h with ⟨_, rfl⟩ | ⟨_, rfl⟩
  · match l with
    | 0 => simp
    | 1 => simp
    | 2 => simp
    | l + 3 => simp
  · match l with
    | 0 => simp
    | 1 => simp
    | 2 => simp
    | 3 => simp
    | l + 4 => simp
theorem vcopy_round (a : Arr) (d : List Int) (x : Int) (xs : List Int) (σ : Heap) (hx : 0 ≤ x ∧ x < a.x.length) (hl : xs.length < 4096) (h : vcI a d xs σ) :
    ∃ F', (∀ st, ¬ F' st) ∧ GetsX T_vcx (fun n S' _ => n = 99 ∧ vcI a d (xs ++ [x]) S'.heap) σ.length F' (.inl ic_vcra) [.seq (.ext 99 [])] ⟨envJ 40 0 [(2, .ptr 0 0), (4, .ptr 1 0), (6, .ptr 2 0), (7, .pv (.int .i64 x)), (28, .pv (.int .i64 x))], σ⟩ := by
  have hlt : x.toNat < a.x.length := by omega
  have hno : ∀ k, ∀ st, ¬ endO' k rs_vcra (fun _ => False) st := by rintro k st ⟨r, _, h⟩; exact h
  rcases h with ⟨rfl, rfl⟩ | ⟨hne, rfl⟩
  · refine ⟨_, hno 3, vcra_r0 (G := fun _ => False) _ a d x ?_⟩
    refine ⟨by simp [Enc.sz]; omega, a.x[x.toNat], by simp [List.getD, hlt], rfl, .inr ⟨by simp, ?_⟩⟩
    simp [getX, List.getD, hlt]
    exact ⟨⟨rfl, rfl⟩, rfl, rfl⟩
  · refine ⟨_, hno 4, vcrb_r0 (G := fun _ => False) _ a d x xs.length (xs.map (getX a)) ?_⟩
    refine ⟨by simp [Enc.sz]; omega, a.x[x.toNat], by simp [List.getD, hlt], by simp; omega, rfl, .inr ⟨by simp, ?_⟩⟩
    simp [getX, List.getD, hlt]
    exact ⟨⟨rfl, rfl⟩, rfl, rfl⟩
theorem vcx_run : ∀ x : Arr × View × Unit, (arSm x.1 && vOk x.2.1) = true → GetsM T_vcx vcE 0 (endP' rs_vcx (Fits (copyT x.1 x.2.1))) ic_vcx [] (st0 nt_vcx (encL x)) := by
  rintro ⟨a, v, ⟨⟩⟩ hp
  simp only [Bool.and_eq_true] at hp
  obtain ⟨ha, hv⟩ := hp
  have ha' := ha
  have hv' := hv
  simp only [arSm, Bool.and_eq_true, decide_eq_true_eq] at ha'
  simp only [vOk, Bool.and_eq_true, decide_eq_true_eq] at hv'
  refine vcx_s vcE a v ?_
  refine ⟨pre_enc (a, ()) rfl ha, ex_enc (a, ()) rfl ?_⟩
  have hlen : (↑(List.length (List.map (enc : Int → PV) a.x)) : Int) = a.x.length := by simp
  by_cases h1 : arVl a = true
  · rw [if_neg (by simp [h1])]
    refine ⟨pre_enc ((a.x.length : Int), v, ()) (by rw [hlen]; rfl) (by simp [hv]; omega), ex_enc ((a.x.length : Int), v, ()) (by rw [hlen]; rfl) ?_⟩
    by_cases h2 : validT a.x.length v = true
    · rw [if_neg (by simp [h2])]
      have hF : F_it [[.int .i64 v.o, enc v.d, enc v.s]] = offsT v := by
        show offsT (dec (enc v : PV)) = offsT v
        rw [Enc.dec_enc]
      have hform : formB v.d v.s = true := by
        simp only [validT, validB, Bool.and_eq_true] at h2
        exact h2.1
      refine ⟨pre_enc (v.d, ()) rfl (by simp; omega), ex_enc (v.d, ()) rfl ⟨?_, rfl, [3], [[.int .i64 v.o, enc v.d, enc v.s]], [2, 4, 6], [], ⟨envJ 40 0 [(2, .ptr 0 0), (4, .ptr 1 0), (6, .ptr 2 0)], vcBase a [.pv (.str a.e.s), .pv (enc v.d), .pv (.sl 0 true [])]⟩, vcI a v.d, rfl, by simp, rfl, ?_, by kernel_rfl, ?_, .inl ⟨rfl, rfl⟩, fun xs σ h => vcI_noMap h, ?_, ?_⟩⟩
      · rfl
      · intro j l ps hl hps
        match j with
        | 0 =>
          simp only [List.getElem?_cons_zero, Option.some.injEq] at hl hps
          subst hl hps
          rfl
        | j + 1 => simp at hl
      · show (is View (enc v) && vOk (dec (enc v : PV)) && formB (dec (enc v : PV) : View).d (dec (enc v : PV) : View).s) = true
        rw [Enc.dec_enc, Enc.is_enc, hv, hform]
        rfl
      · intro xs x σ hx _ hxl hI
        rw [hF] at hx hxl
        have e : asgE [(7, 28)] (setE [28] [.pv (.int .i64 x)] (envJ 40 0 [(2, .ptr 0 0), (4, .ptr 1 0), (6, .ptr 2 0)])) = envJ 40 0 [(2, .ptr 0 0), (4, .ptr 1 0), (6, .ptr 2 0), (7, .pv (.int .i64 x)), (28, .pv (.int .i64 x))] := by kernel_rfl
        have := offs_len v
        have hr := vcopy_round a v.d x xs σ (offs_in (by omega) h2 x hx) (by omega) hI
        rw [← e] at hr
        exact hr
      · intro σ hI
        rw [hF] at hI
        rcases hI with ⟨e, rfl⟩ | ⟨e, rfl⟩
        · refine vcx_x0a vcE a v v.d ?_
          exact ⟨by simp [Enc.sz], by simp [copyT, h1, h2, e]⟩
        · refine vcx_x0b vcE a v v.d (offsT v).length ((offsT v).map (getX a)) ?_
          have e2 : List.drop 0 (List.take (offsT v).length (List.map (enc : Int → PV) ((offsT v).map (getX a)))) = List.map (enc : Int → PV) ((offsT v).map (getX a)) := by rw [List.drop_zero, List.take_of_length_le (by simp)]
          rw [e2]
          refine ⟨by simp, by simp [Enc.sz], ?_⟩
          simp [copyT, h1, h2]
          intros
          rfl
    · rw [if_pos (by simpa using h2)]
      exact ⟨by simp [Enc.sz], by simp [copyT, h1, h2]⟩
  · rw [if_pos (by simpa using h1)]
    exact ⟨by simp [Enc.sz], by simp [copyT, h1]⟩
end Go.Pl

