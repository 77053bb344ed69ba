/-
  Texts of mine that belong together (packed by pack.py), for every input: GVe, QVj, GVy, QVy, GVz, QVz, GVf, QVk, GVg, QVl, QVm, GVh, QVn, GVi, QVp, TyV, TyA, TyX, TyZ, GWv, QWv.
-/
import Derived.Test.YtpdpkmihgelmoaaKV2
import Derived.Test.YtpdpkmihgelmoaaKV3
import Derived.KernelRfl
set_option linter.unusedVariables false
set_option linter.unusedSimpArgs false
namespace Go.Pl
open Go.RowKit
set_option maxRecDepth 100000
def ic_swind : IC := (.seq (.reg [⟨(some 3), (.box 3 (.t 0)), 0, none⟩, ⟨(some 6), (.alloc (.agg [(.int .i64 0), (.sl 0 true []), (.sl 0 true [])])), 1, none⟩, ⟨(some 7), (.mv (.c (.int .i64 0))), 2, none⟩] none) (.seq (.seq (.reg [⟨(some 13), (.load true [(.int .i64), (.sl 1), (.sl 1)] (.t 3)), 0, none⟩, ⟨(some 14), (.call (.c (.fn 76)) [(.t 13)]), 0, none⟩, ⟨(some 15), (.un .not (.t 14)), 2, none⟩] none) (.cond (.t 15) (.seq (.reg [⟨(some 16), (.build [(.int .i64 0), (.sl 0 true []), (.sl 0 true [])] []), 0, none⟩, ⟨none, (.store 3 (.t 6) (.t 16)), 0, none⟩, ⟨(some 7), (.mv (.c (.int .i64 1))), 0, none⟩] none) .ret) .skip)) (.seq (.reg [⟨(some 17), (.faddr 1 (.t 3)), 0, none⟩, ⟨(some 18), (.load false [(.sl 1)] (.t 17)), 0, none⟩, ⟨(some 19), (.len 1 (.t 18)), 0, none⟩, ⟨(some 20), (.mv (.t 1)), 0, none⟩, ⟨(some 21), (.bin .num .sub (.t 19) (.t 20)), 0, none⟩, ⟨(some 8), (.mv (.t 21)), 0, none⟩] none) (.seq (.seq (.reg [⟨(some 22), (.mv (.t 8)), 0, none⟩, ⟨(some 23), (.bin .num .lss (.t 22) (.c (.int .i64 0))), 0, none⟩] none) (.cond (.t 23) (.seq (.reg [⟨(some 24), (.build [(.int .i64 0), (.sl 0 true []), (.sl 0 true [])] []), 0, none⟩, ⟨none, (.store 3 (.t 6) (.t 24)), 0, none⟩, ⟨(some 7), (.mv (.c (.int .i64 13))), 0, none⟩] none) .ret) .skip)) (.seq (.reg [⟨(some 25), (.faddr 0 (.t 3)), 0, none⟩, ⟨(some 26), (.load false [(.int .i64)] (.t 25)), 0, none⟩, ⟨(some 27), (.faddr 1 (.t 3)), 0, none⟩, ⟨(some 28), (.load false [(.sl 1)] (.t 27)), 0, none⟩, ⟨(some 29), (.mv (.t 8)), 0, none⟩, ⟨(some 30), (.slc 1 (.t 28) none (some (.t 29)) none), 0, none⟩, ⟨(some 31), (.call (.c (.fn 74)) [(.t 30)]), 0, none⟩, ⟨(some 32), (.faddr 2 (.t 3)), 2, none⟩, ⟨(some 33), (.load false [(.sl 1)] (.t 32)), 2, none⟩, ⟨(some 34), (.mv (.t 8)), 2, none⟩, ⟨(some 35), (.slc 1 (.t 33) none (some (.t 34)) none), 2, none⟩, ⟨(some 36), (.call (.c (.fn 74)) [(.t 35)]), 2, none⟩, ⟨(some 37), (.build [(.int .i64 0), (.sl 0 true []), (.sl 0 true [])] [(0, (1, (.t 26))), (1, (1, (.t 31))), (2, (1, (.t 36)))]), 4, none⟩, ⟨(some 9), (.alloc (.agg [(.int .i64 0), (.sl 0 true []), (.sl 0 true [])])), 4, none⟩, ⟨none, (.store 3 (.t 9) (.t 37)), 5, none⟩] (some [[], [0], [], [2], [], [3, 4, 2], [5, 3, 4, 2], [], [7], [], [8, 9, 7], [10, 6, 8, 9, 7, 5, 3, 4, 2], [1, 6, 11, 0, 5, 3, 4, 2, 10, 8, 9, 7], [], [13, 12, 11, 0, 1, 2, 3, 4, 5, 6, 7, 8, 9, 10]])) (.seq (.seq (.reg [⟨(some 38), (.mv (.t 2)), 0, none⟩, ⟨(some 39), (.faddr 1 (.t 3)), 0, none⟩, ⟨(some 40), (.load false [(.sl 1)] (.t 39)), 0, none⟩, ⟨(some 41), (.mv (.t 8)), 0, none⟩, ⟨(some 42), (.slc 1 (.t 40) (some (.t 41)) none none), 0, none⟩, ⟨(some 43), (.faddr 2 (.t 3)), 0, none⟩, ⟨(some 44), (.load false [(.sl 1)] (.t 43)), 0, none⟩, ⟨(some 45), (.mv (.t 8)), 0, none⟩, ⟨(some 46), (.slc 1 (.t 44) (some (.t 45)) none none), 0, none⟩, ⟨(some 47), (.call (.t 38) [(.t 9), (.t 42), (.t 46)]), 0, none⟩, ⟨(some 10), (.mv (.t 47)), 2, none⟩] (some [[], [], [1], [], [2, 3, 1], [], [5], [], [6, 7, 5], [0, 4, 8, 2, 3, 1, 6, 7, 5], [9, 0, 1, 2, 3, 4, 5, 6, 7, 8]])) (.seq (.reg [⟨(some 48), (.mv (.t 10)), 0, none⟩, ⟨(some 49), (.bin .num .neq (.t 48) (.c (.int .i64 0))), 0, none⟩] none) (.cond (.t 49) (.seq (.reg [⟨(some 50), (.build [(.int .i64 0), (.sl 0 true []), (.sl 0 true [])] []), 0, none⟩, ⟨(some 51), (.mv (.t 10)), 0, none⟩, ⟨none, (.store 3 (.t 6) (.t 50)), 0, none⟩, ⟨(some 7), (.mv (.t 51)), 0, none⟩] none) .ret) .skip))) (.seq (.seq (.reg [⟨(some 53), (.faddr 1 (.t 9)), 0, none⟩, ⟨(some 54), (.load false [(.sl 1)] (.t 53)), 0, none⟩, ⟨(some 55), (.call (.c (.fn 73)) [(.t 54)]), 0, none⟩, ⟨(some 52), (.mv (.t 55)), 2, none⟩, ⟨(some 56), (.extract (.t 52) 0), 2, none⟩, ⟨(some 57), (.extract (.t 52) 1), 2, none⟩, ⟨(some 11), (.mv (.t 56)), 2, none⟩, ⟨(some 12), (.mv (.t 57)), 2, none⟩] none) (.seq (.reg [⟨(some 58), (.mv (.t 12)), 0, none⟩, ⟨(some 59), (.bin .num .neq (.t 58) (.c (.int .i64 0))), 0, none⟩] none) (.cond (.t 59) (.seq (.reg [⟨(some 60), (.build [(.int .i64 0), (.sl 0 true []), (.sl 0 true [])] []), 0, none⟩, ⟨(some 61), (.mv (.t 12)), 0, none⟩, ⟨none, (.store 3 (.t 6) (.t 60)), 0, none⟩, ⟨(some 7), (.mv (.t 61)), 0, none⟩] none) .ret) .skip))) (.seq (.reg [⟨(some 62), (.load true [(.int .i64), (.sl 1), (.sl 1)] (.t 9)), 0, none⟩, ⟨none, (.store 3 (.t 6) (.t 62)), 0, none⟩, ⟨(some 7), (.mv (.c (.int .i64 0))), 0, none⟩] none) .ret))))))))
def rs_swind : List IRes := [(.cell true 3 6), (.tmp 7)]
abbrev nt_swind : Nat := 63
def T_swind : Tab := tab [(76, .pure pre_v1 val_formed), (74, .own pre_copyn val_copyo), (73, .pure pre_size val_size), (101, .own (pre1 1) (val1p windC))]
theorem swind_s {r : AV × List AObj × List AObj} (o : Int) (d s : List Int) (t u : Bool) (k : Int) (h : (pre_v1 [(.agg [(.int .i64 o), (.sl 1 t (nums d)), (.sl 1 u (nums s))])]) = true ∧ (if (!formB (PV.agg [PV.int .i64 o, PV.sl 1 t (nums d), PV.sl 1 u (nums s)]).vD (PV.agg [PV.int .i64 o, PV.sl 1 t (nums d), PV.sl 1 u (nums s)]).vS) = true then ((.pv (.tup [(.agg [(.int .i64 0), (.sl 0 true []), (.sl 0 true [])]), (.int .i64 1)])), ([(.box [(.pv (.int .i64 k))])], [])) = r else (if (decide (IntKind.i64.wrap ((↑(nums d).length : Int) - 1) < 0)) = true then ((.pv (.tup [(.agg [(.int .i64 0), (.sl 0 true []), (.sl 0 true [])]), (.int .i64 13)])), ([(.box [(.pv (.int .i64 k))])], [])) = r else ((true && decide (0 ≤ IntKind.i64.wrap ((↑(nums d).length : Int) - 1)) && ((nums d).isEmpty || 1 == 1) && decide (0 ≤ (IntKind.i64.wrap ((↑(nums d).length : Int) - 1)).toNat) && decide ((IntKind.i64.wrap ((↑(nums d).length : Int) - 1)).toNat ≤ (nums d).length)) = true ∧ (pre_copyn [(.pv (.sl 1 (t && decide ((IntKind.i64.wrap ((↑(nums d).length : Int) - 1)).toNat = (nums d).length)) (List.drop 0 (List.take (IntKind.i64.wrap ((↑(nums d).length : Int) - 1)).toNat (nums d)))))] []) = true ∧ (true && decide (0 ≤ IntKind.i64.wrap ((↑(nums d).length : Int) - 1)) && ((nums s).isEmpty || 1 == 1) && decide (0 ≤ (IntKind.i64.wrap ((↑(nums d).length : Int) - 1)).toNat) && decide ((IntKind.i64.wrap ((↑(nums d).length : Int) - 1)).toNat ≤ (nums s).length)) = true ∧ (pre_copyn [(.pv (.sl 1 (u && decide ((IntKind.i64.wrap ((↑(nums d).length : Int) - 1)).toNat = (nums s).length)) (List.drop 0 (List.take (IntKind.i64.wrap ((↑(nums d).length : Int) - 1)).toNat (nums s)))))] []) = true ∧ (decide (0 ≤ IntKind.i64.wrap ((↑(nums d).length : Int) - 1)) && true && ((nums d).isEmpty || 1 == 1) && decide ((IntKind.i64.wrap ((↑(nums d).length : Int) - 1)).toNat ≤ (nums d).length) && decide ((nums d).length ≤ (nums d).length)) = true ∧ (decide (0 ≤ IntKind.i64.wrap ((↑(nums d).length : Int) - 1)) && true && ((nums s).isEmpty || 1 == 1) && decide ((IntKind.i64.wrap ((↑(nums d).length : Int) - 1)).toNat ≤ (nums s).length) && decide ((nums s).length ≤ (nums s).length)) = true ∧ (pre1 1 [(.ptr 0 0), (.pv (.sl 1 (t && decide ((nums d).length = (nums d).length)) (List.drop (IntKind.i64.wrap ((↑(nums d).length : Int) - 1)).toNat (List.take (nums d).length (nums d))))), (.pv (.sl 1 (u && decide ((nums s).length = (nums s).length)) (List.drop (IntKind.i64.wrap ((↑(nums d).length : Int) - 1)).toNat (List.take (nums s).length (nums s))))), (.ptr 1 0)] [(.box [(.pv (.int .i64 o)), (.row 2 ((List.drop 0 (List.take (IntKind.i64.wrap ((↑(nums d).length : Int) - 1)).toNat (nums d))).length) 0 ((List.drop 0 (List.take (IntKind.i64.wrap ((↑(nums d).length : Int) - 1)).toNat (nums d))).length)), (.row 3 ((List.drop 0 (List.take (IntKind.i64.wrap ((↑(nums d).length : Int) - 1)).toNat (nums s))).length) 0 ((List.drop 0 (List.take (IntKind.i64.wrap ((↑(nums d).length : Int) - 1)).toNat (nums s))).length))]), (.box [(.pv (.int .i64 k))]), (.row false 3 1 (List.drop 0 (List.take (IntKind.i64.wrap ((↑(nums d).length : Int) - 1)).toNat (nums d)))), (.row false 3 1 (List.drop 0 (List.take (IntKind.i64.wrap ((↑(nums d).length : Int) - 1)).toNat (nums s))))]) = true ∧ (if (errC windC (caOf o (List.drop 0 (List.take (IntKind.i64.wrap ((↑(nums d).length : Int) - 1)).toNat (nums d))) (List.drop 0 (List.take (IntKind.i64.wrap ((↑(nums d).length : Int) - 1)).toNat (nums s))) (List.drop (IntKind.i64.wrap ((↑(nums d).length : Int) - 1)).toNat (List.take (nums d).length (nums d))) (List.drop (IntKind.i64.wrap ((↑(nums d).length : Int) - 1)).toNat (List.take (nums s).length (nums s))) k) != 0) = true then ((.pv (.tup [(.agg [(.int .i64 0), (.sl 0 true []), (.sl 0 true [])]), (.int .i64 (errC windC (caOf o (List.drop 0 (List.take (IntKind.i64.wrap ((↑(nums d).length : Int) - 1)).toNat (nums d))) (List.drop 0 (List.take (IntKind.i64.wrap ((↑(nums d).length : Int) - 1)).toNat (nums s))) (List.drop (IntKind.i64.wrap ((↑(nums d).length : Int) - 1)).toNat (List.take (nums d).length (nums d))) (List.drop (IntKind.i64.wrap ((↑(nums d).length : Int) - 1)).toNat (List.take (nums s).length (nums s))) k)))])), ([(.box [(.pv (.int .i64 k))])], [])) = r else (((addL (List.drop 0 (List.take (IntKind.i64.wrap ((↑(nums d).length : Int) - 1)).toNat (nums d))) (dimC windC (caOf o (List.drop 0 (List.take (IntKind.i64.wrap ((↑(nums d).length : Int) - 1)).toNat (nums d))) (List.drop 0 (List.take (IntKind.i64.wrap ((↑(nums d).length : Int) - 1)).toNat (nums s))) (List.drop (IntKind.i64.wrap ((↑(nums d).length : Int) - 1)).toNat (List.take (nums d).length (nums d))) (List.drop (IntKind.i64.wrap ((↑(nums d).length : Int) - 1)).toNat (List.take (nums s).length (nums s))) k))).length == (addL (List.drop 0 (List.take (IntKind.i64.wrap ((↑(nums d).length : Int) - 1)).toNat (nums d))) (dimC windC (caOf o (List.drop 0 (List.take (IntKind.i64.wrap ((↑(nums d).length : Int) - 1)).toNat (nums d))) (List.drop 0 (List.take (IntKind.i64.wrap ((↑(nums d).length : Int) - 1)).toNat (nums s))) (List.drop (IntKind.i64.wrap ((↑(nums d).length : Int) - 1)).toNat (List.take (nums d).length (nums d))) (List.drop (IntKind.i64.wrap ((↑(nums d).length : Int) - 1)).toNat (List.take (nums s).length (nums s))) k))).length) = true ∧ (pre_size [(.sl 1 false (List.drop 0 (List.take (addL (List.drop 0 (List.take (IntKind.i64.wrap ((↑(nums d).length : Int) - 1)).toNat (nums d))) (dimC windC (caOf o (List.drop 0 (List.take (IntKind.i64.wrap ((↑(nums d).length : Int) - 1)).toNat (nums d))) (List.drop 0 (List.take (IntKind.i64.wrap ((↑(nums d).length : Int) - 1)).toNat (nums s))) (List.drop (IntKind.i64.wrap ((↑(nums d).length : Int) - 1)).toNat (List.take (nums d).length (nums d))) (List.drop (IntKind.i64.wrap ((↑(nums d).length : Int) - 1)).toNat (List.take (nums s).length (nums s))) k))).length (addL (List.drop 0 (List.take (IntKind.i64.wrap ((↑(nums d).length : Int) - 1)).toNat (nums d))) (dimC windC (caOf o (List.drop 0 (List.take (IntKind.i64.wrap ((↑(nums d).length : Int) - 1)).toNat (nums d))) (List.drop 0 (List.take (IntKind.i64.wrap ((↑(nums d).length : Int) - 1)).toNat (nums s))) (List.drop (IntKind.i64.wrap ((↑(nums d).length : Int) - 1)).toNat (List.take (nums d).length (nums d))) (List.drop (IntKind.i64.wrap ((↑(nums d).length : Int) - 1)).toNat (List.take (nums s).length (nums s))) k))))))]) = true ∧ (if ((sizeB (List.map PV.asInt (List.drop 0 (List.take (addL (List.drop 0 (List.take (IntKind.i64.wrap ((↑(nums d).length : Int) - 1)).toNat (nums d))) (dimC windC (caOf o (List.drop 0 (List.take (IntKind.i64.wrap ((↑(nums d).length : Int) - 1)).toNat (nums d))) (List.drop 0 (List.take (IntKind.i64.wrap ((↑(nums d).length : Int) - 1)).toNat (nums s))) (List.drop (IntKind.i64.wrap ((↑(nums d).length : Int) - 1)).toNat (List.take (nums d).length (nums d))) (List.drop (IntKind.i64.wrap ((↑(nums d).length : Int) - 1)).toNat (List.take (nums s).length (nums s))) k))).length (addL (List.drop 0 (List.take (IntKind.i64.wrap ((↑(nums d).length : Int) - 1)).toNat (nums d))) (dimC windC (caOf o (List.drop 0 (List.take (IntKind.i64.wrap ((↑(nums d).length : Int) - 1)).toNat (nums d))) (List.drop 0 (List.take (IntKind.i64.wrap ((↑(nums d).length : Int) - 1)).toNat (nums s))) (List.drop (IntKind.i64.wrap ((↑(nums d).length : Int) - 1)).toNat (List.take (nums d).length (nums d))) (List.drop (IntKind.i64.wrap ((↑(nums d).length : Int) - 1)).toNat (List.take (nums s).length (nums s))) k))))))).snd != 0) = true then ((.pv (.tup [(.agg [(.int .i64 0), (.sl 0 true []), (.sl 0 true [])]), (.int .i64 ((sizeB (List.map PV.asInt (List.drop 0 (List.take (addL (List.drop 0 (List.take (IntKind.i64.wrap ((↑(nums d).length : Int) - 1)).toNat (nums d))) (dimC windC (caOf o (List.drop 0 (List.take (IntKind.i64.wrap ((↑(nums d).length : Int) - 1)).toNat (nums d))) (List.drop 0 (List.take (IntKind.i64.wrap ((↑(nums d).length : Int) - 1)).toNat (nums s))) (List.drop (IntKind.i64.wrap ((↑(nums d).length : Int) - 1)).toNat (List.take (nums d).length (nums d))) (List.drop (IntKind.i64.wrap ((↑(nums d).length : Int) - 1)).toNat (List.take (nums s).length (nums s))) k))).length (addL (List.drop 0 (List.take (IntKind.i64.wrap ((↑(nums d).length : Int) - 1)).toNat (nums d))) (dimC windC (caOf o (List.drop 0 (List.take (IntKind.i64.wrap ((↑(nums d).length : Int) - 1)).toNat (nums d))) (List.drop 0 (List.take (IntKind.i64.wrap ((↑(nums d).length : Int) - 1)).toNat (nums s))) (List.drop (IntKind.i64.wrap ((↑(nums d).length : Int) - 1)).toNat (List.take (nums d).length (nums d))) (List.drop (IntKind.i64.wrap ((↑(nums d).length : Int) - 1)).toNat (List.take (nums s).length (nums s))) k))))))).snd))])), ([(.box [(.pv (.int .i64 k))])], [])) = r else (((addL (List.drop 0 (List.take (IntKind.i64.wrap ((↑(nums d).length : Int) - 1)).toNat (nums d))) (dimC windC (caOf o (List.drop 0 (List.take (IntKind.i64.wrap ((↑(nums d).length : Int) - 1)).toNat (nums d))) (List.drop 0 (List.take (IntKind.i64.wrap ((↑(nums d).length : Int) - 1)).toNat (nums s))) (List.drop (IntKind.i64.wrap ((↑(nums d).length : Int) - 1)).toNat (List.take (nums d).length (nums d))) (List.drop (IntKind.i64.wrap ((↑(nums d).length : Int) - 1)).toNat (List.take (nums s).length (nums s))) k))).length == (addL (List.drop 0 (List.take (IntKind.i64.wrap ((↑(nums d).length : Int) - 1)).toNat (nums d))) (dimC windC (caOf o (List.drop 0 (List.take (IntKind.i64.wrap ((↑(nums d).length : Int) - 1)).toNat (nums d))) (List.drop 0 (List.take (IntKind.i64.wrap ((↑(nums d).length : Int) - 1)).toNat (nums s))) (List.drop (IntKind.i64.wrap ((↑(nums d).length : Int) - 1)).toNat (List.take (nums d).length (nums d))) (List.drop (IntKind.i64.wrap ((↑(nums d).length : Int) - 1)).toNat (List.take (nums s).length (nums s))) k))).length) = true ∧ ((addL (List.drop 0 (List.take (IntKind.i64.wrap ((↑(nums d).length : Int) - 1)).toNat (nums s))) (strC windC (caOf o (List.drop 0 (List.take (IntKind.i64.wrap ((↑(nums d).length : Int) - 1)).toNat (nums d))) (List.drop 0 (List.take (IntKind.i64.wrap ((↑(nums d).length : Int) - 1)).toNat (nums s))) (List.drop (IntKind.i64.wrap ((↑(nums d).length : Int) - 1)).toNat (List.take (nums d).length (nums d))) (List.drop (IntKind.i64.wrap ((↑(nums d).length : Int) - 1)).toNat (List.take (nums s).length (nums s))) k))).length == (addL (List.drop 0 (List.take (IntKind.i64.wrap ((↑(nums d).length : Int) - 1)).toNat (nums s))) (strC windC (caOf o (List.drop 0 (List.take (IntKind.i64.wrap ((↑(nums d).length : Int) - 1)).toNat (nums d))) (List.drop 0 (List.take (IntKind.i64.wrap ((↑(nums d).length : Int) - 1)).toNat (nums s))) (List.drop (IntKind.i64.wrap ((↑(nums d).length : Int) - 1)).toNat (List.take (nums d).length (nums d))) (List.drop (IntKind.i64.wrap ((↑(nums d).length : Int) - 1)).toNat (List.take (nums s).length (nums s))) k))).length) = true ∧ (((.pv (.tup [(.agg [(.int .i64 (offC windC (caOf o (List.drop 0 (List.take (IntKind.i64.wrap ((↑(nums d).length : Int) - 1)).toNat (nums d))) (List.drop 0 (List.take (IntKind.i64.wrap ((↑(nums d).length : Int) - 1)).toNat (nums s))) (List.drop (IntKind.i64.wrap ((↑(nums d).length : Int) - 1)).toNat (List.take (nums d).length (nums d))) (List.drop (IntKind.i64.wrap ((↑(nums d).length : Int) - 1)).toNat (List.take (nums s).length (nums s))) k))), (.sl 1 false (List.drop 0 (List.take (addL (List.drop 0 (List.take (IntKind.i64.wrap ((↑(nums d).length : Int) - 1)).toNat (nums d))) (dimC windC (caOf o (List.drop 0 (List.take (IntKind.i64.wrap ((↑(nums d).length : Int) - 1)).toNat (nums d))) (List.drop 0 (List.take (IntKind.i64.wrap ((↑(nums d).length : Int) - 1)).toNat (nums s))) (List.drop (IntKind.i64.wrap ((↑(nums d).length : Int) - 1)).toNat (List.take (nums d).length (nums d))) (List.drop (IntKind.i64.wrap ((↑(nums d).length : Int) - 1)).toNat (List.take (nums s).length (nums s))) k))).length (addL (List.drop 0 (List.take (IntKind.i64.wrap ((↑(nums d).length : Int) - 1)).toNat (nums d))) (dimC windC (caOf o (List.drop 0 (List.take (IntKind.i64.wrap ((↑(nums d).length : Int) - 1)).toNat (nums d))) (List.drop 0 (List.take (IntKind.i64.wrap ((↑(nums d).length : Int) - 1)).toNat (nums s))) (List.drop (IntKind.i64.wrap ((↑(nums d).length : Int) - 1)).toNat (List.take (nums d).length (nums d))) (List.drop (IntKind.i64.wrap ((↑(nums d).length : Int) - 1)).toNat (List.take (nums s).length (nums s))) k)))))), (.sl 1 false (List.drop 0 (List.take (addL (List.drop 0 (List.take (IntKind.i64.wrap ((↑(nums d).length : Int) - 1)).toNat (nums s))) (strC windC (caOf o (List.drop 0 (List.take (IntKind.i64.wrap ((↑(nums d).length : Int) - 1)).toNat (nums d))) (List.drop 0 (List.take (IntKind.i64.wrap ((↑(nums d).length : Int) - 1)).toNat (nums s))) (List.drop (IntKind.i64.wrap ((↑(nums d).length : Int) - 1)).toNat (List.take (nums d).length (nums d))) (List.drop (IntKind.i64.wrap ((↑(nums d).length : Int) - 1)).toNat (List.take (nums s).length (nums s))) k))).length (addL (List.drop 0 (List.take (IntKind.i64.wrap ((↑(nums d).length : Int) - 1)).toNat (nums s))) (strC windC (caOf o (List.drop 0 (List.take (IntKind.i64.wrap ((↑(nums d).length : Int) - 1)).toNat (nums d))) (List.drop 0 (List.take (IntKind.i64.wrap ((↑(nums d).length : Int) - 1)).toNat (nums s))) (List.drop (IntKind.i64.wrap ((↑(nums d).length : Int) - 1)).toNat (List.take (nums d).length (nums d))) (List.drop (IntKind.i64.wrap ((↑(nums d).length : Int) - 1)).toNat (List.take (nums s).length (nums s))) k))))))]), (.int .i64 0)])), ([(.box [(.pv (.int .i64 k))])], [])) = r))))))))) : Gets T_swind 1 (fun st => finF 1 st rs_swind = some r) ic_swind [] (st0O 63 [.pv (.agg [.int .i64 o, .sl 1 t (nums d), .sl 1 u (nums s)]), .pv (.int .i64 1), .fn 101 [] [.ptr 0 0]] [.box [.pv (.int .i64 k)]]) := Gets.wf (.req (.ask (.nil) (.lit (.lit (.ask (.nil) (.req (.req (.req (.req (.req (.req (.req (.lit (.ask (.nil) (.req (.req (.lit (.ask (.nil) (.req (.req (.nil))))))))))))))))))))) h (by kernel_rfl)
def ic_stran : IC := (.seq (.reg [⟨(some 3), (.box 3 (.t 0)), 0, none⟩, ⟨(some 6), (.alloc (.agg [(.int .i64 0), (.sl 0 true []), (.sl 0 true [])])), 1, none⟩, ⟨(some 7), (.mv (.c (.int .i64 0))), 2, none⟩] none) (.seq (.seq (.reg [⟨(some 13), (.load true [(.int .i64), (.sl 1), (.sl 1)] (.t 3)), 0, none⟩, ⟨(some 14), (.call (.c (.fn 76)) [(.t 13)]), 0, none⟩, ⟨(some 15), (.un .not (.t 14)), 2, none⟩] none) (.cond (.t 15) (.seq (.reg [⟨(some 16), (.build [(.int .i64 0), (.sl 0 true []), (.sl 0 true [])] []), 0, none⟩, ⟨none, (.store 3 (.t 6) (.t 16)), 0, none⟩, ⟨(some 7), (.mv (.c (.int .i64 1))), 0, none⟩] none) .ret) .skip)) (.seq (.reg [⟨(some 17), (.faddr 1 (.t 3)), 0, none⟩, ⟨(some 18), (.load false [(.sl 1)] (.t 17)), 0, none⟩, ⟨(some 19), (.len 1 (.t 18)), 0, none⟩, ⟨(some 20), (.mv (.t 1)), 0, none⟩, ⟨(some 21), (.bin .num .sub (.t 19) (.t 20)), 0, none⟩, ⟨(some 8), (.mv (.t 21)), 0, none⟩] none) (.seq (.seq (.reg [⟨(some 22), (.mv (.t 8)), 0, none⟩, ⟨(some 23), (.bin .num .lss (.t 22) (.c (.int .i64 0))), 0, none⟩] none) (.cond (.t 23) (.seq (.reg [⟨(some 24), (.build [(.int .i64 0), (.sl 0 true []), (.sl 0 true [])] []), 0, none⟩, ⟨none, (.store 3 (.t 6) (.t 24)), 0, none⟩, ⟨(some 7), (.mv (.c (.int .i64 13))), 0, none⟩] none) .ret) .skip)) (.seq (.reg [⟨(some 25), (.faddr 0 (.t 3)), 0, none⟩, ⟨(some 26), (.load false [(.int .i64)] (.t 25)), 0, none⟩, ⟨(some 27), (.faddr 1 (.t 3)), 0, none⟩, ⟨(some 28), (.load false [(.sl 1)] (.t 27)), 0, none⟩, ⟨(some 29), (.mv (.t 8)), 0, none⟩, ⟨(some 30), (.slc 1 (.t 28) none (some (.t 29)) none), 0, none⟩, ⟨(some 31), (.call (.c (.fn 74)) [(.t 30)]), 0, none⟩, ⟨(some 32), (.faddr 2 (.t 3)), 2, none⟩, ⟨(some 33), (.load false [(.sl 1)] (.t 32)), 2, none⟩, ⟨(some 34), (.mv (.t 8)), 2, none⟩, ⟨(some 35), (.slc 1 (.t 33) none (some (.t 34)) none), 2, none⟩, ⟨(some 36), (.call (.c (.fn 74)) [(.t 35)]), 2, none⟩, ⟨(some 37), (.build [(.int .i64 0), (.sl 0 true []), (.sl 0 true [])] [(0, (1, (.t 26))), (1, (1, (.t 31))), (2, (1, (.t 36)))]), 4, none⟩, ⟨(some 9), (.alloc (.agg [(.int .i64 0), (.sl 0 true []), (.sl 0 true [])])), 4, none⟩, ⟨none, (.store 3 (.t 9) (.t 37)), 5, none⟩] (some [[], [0], [], [2], [], [3, 4, 2], [5, 3, 4, 2], [], [7], [], [8, 9, 7], [10, 6, 8, 9, 7, 5, 3, 4, 2], [1, 6, 11, 0, 5, 3, 4, 2, 10, 8, 9, 7], [], [13, 12, 11, 0, 1, 2, 3, 4, 5, 6, 7, 8, 9, 10]])) (.seq (.seq (.reg [⟨(some 38), (.mv (.t 2)), 0, none⟩, ⟨(some 39), (.faddr 1 (.t 3)), 0, none⟩, ⟨(some 40), (.load false [(.sl 1)] (.t 39)), 0, none⟩, ⟨(some 41), (.mv (.t 8)), 0, none⟩, ⟨(some 42), (.slc 1 (.t 40) (some (.t 41)) none none), 0, none⟩, ⟨(some 43), (.faddr 2 (.t 3)), 0, none⟩, ⟨(some 44), (.load false [(.sl 1)] (.t 43)), 0, none⟩, ⟨(some 45), (.mv (.t 8)), 0, none⟩, ⟨(some 46), (.slc 1 (.t 44) (some (.t 45)) none none), 0, none⟩, ⟨(some 47), (.call (.t 38) [(.t 9), (.t 42), (.t 46)]), 0, none⟩, ⟨(some 10), (.mv (.t 47)), 2, none⟩] (some [[], [], [1], [], [2, 3, 1], [], [5], [], [6, 7, 5], [0, 4, 8, 2, 3, 1, 6, 7, 5], [9, 0, 1, 2, 3, 4, 5, 6, 7, 8]])) (.seq (.reg [⟨(some 48), (.mv (.t 10)), 0, none⟩, ⟨(some 49), (.bin .num .neq (.t 48) (.c (.int .i64 0))), 0, none⟩] none) (.cond (.t 49) (.seq (.reg [⟨(some 50), (.build [(.int .i64 0), (.sl 0 true []), (.sl 0 true [])] []), 0, none⟩, ⟨(some 51), (.mv (.t 10)), 0, none⟩, ⟨none, (.store 3 (.t 6) (.t 50)), 0, none⟩, ⟨(some 7), (.mv (.t 51)), 0, none⟩] none) .ret) .skip))) (.seq (.seq (.reg [⟨(some 53), (.faddr 1 (.t 9)), 0, none⟩, ⟨(some 54), (.load false [(.sl 1)] (.t 53)), 0, none⟩, ⟨(some 55), (.call (.c (.fn 73)) [(.t 54)]), 0, none⟩, ⟨(some 52), (.mv (.t 55)), 2, none⟩, ⟨(some 56), (.extract (.t 52) 0), 2, none⟩, ⟨(some 57), (.extract (.t 52) 1), 2, none⟩, ⟨(some 11), (.mv (.t 56)), 2, none⟩, ⟨(some 12), (.mv (.t 57)), 2, none⟩] none) (.seq (.reg [⟨(some 58), (.mv (.t 12)), 0, none⟩, ⟨(some 59), (.bin .num .neq (.t 58) (.c (.int .i64 0))), 0, none⟩] none) (.cond (.t 59) (.seq (.reg [⟨(some 60), (.build [(.int .i64 0), (.sl 0 true []), (.sl 0 true [])] []), 0, none⟩, ⟨(some 61), (.mv (.t 12)), 0, none⟩, ⟨none, (.store 3 (.t 6) (.t 60)), 0, none⟩, ⟨(some 7), (.mv (.t 61)), 0, none⟩] none) .ret) .skip))) (.seq (.reg [⟨(some 62), (.load true [(.int .i64), (.sl 1), (.sl 1)] (.t 9)), 0, none⟩, ⟨none, (.store 3 (.t 6) (.t 62)), 0, none⟩, ⟨(some 7), (.mv (.c (.int .i64 0))), 0, none⟩] none) .ret))))))))
def rs_stran : List IRes := [(.cell true 3 6), (.tmp 7)]
abbrev nt_stran : Nat := 63
def T_stran : Tab := tab [(76, .pure pre_v1 val_formed), (74, .own pre_copyn val_copyo), (73, .pure pre_size val_size), (90, .own (pre0 2) (val0p tranC))]
theorem stran_s {r : AV × List AObj × List AObj} (o : Int) (d s : List Int) (t u : Bool) (h : (pre_v1 [(.agg [(.int .i64 o), (.sl 1 t (nums d)), (.sl 1 u (nums s))])]) = true ∧ (if (!formB (PV.agg [PV.int .i64 o, PV.sl 1 t (nums d), PV.sl 1 u (nums s)]).vD (PV.agg [PV.int .i64 o, PV.sl 1 t (nums d), PV.sl 1 u (nums s)]).vS) = true then ((.pv (.tup [(.agg [(.int .i64 0), (.sl 0 true []), (.sl 0 true [])]), (.int .i64 1)])), ([], [])) = r else (if (decide (IntKind.i64.wrap ((↑(nums d).length : Int) - 2) < 0)) = true then ((.pv (.tup [(.agg [(.int .i64 0), (.sl 0 true []), (.sl 0 true [])]), (.int .i64 13)])), ([], [])) = r else ((true && decide (0 ≤ IntKind.i64.wrap ((↑(nums d).length : Int) - 2)) && ((nums d).isEmpty || 1 == 1) && decide (0 ≤ (IntKind.i64.wrap ((↑(nums d).length : Int) - 2)).toNat) && decide ((IntKind.i64.wrap ((↑(nums d).length : Int) - 2)).toNat ≤ (nums d).length)) = true ∧ (pre_copyn [(.pv (.sl 1 (t && decide ((IntKind.i64.wrap ((↑(nums d).length : Int) - 2)).toNat = (nums d).length)) (List.drop 0 (List.take (IntKind.i64.wrap ((↑(nums d).length : Int) - 2)).toNat (nums d)))))] []) = true ∧ (true && decide (0 ≤ IntKind.i64.wrap ((↑(nums d).length : Int) - 2)) && ((nums s).isEmpty || 1 == 1) && decide (0 ≤ (IntKind.i64.wrap ((↑(nums d).length : Int) - 2)).toNat) && decide ((IntKind.i64.wrap ((↑(nums d).length : Int) - 2)).toNat ≤ (nums s).length)) = true ∧ (pre_copyn [(.pv (.sl 1 (u && decide ((IntKind.i64.wrap ((↑(nums d).length : Int) - 2)).toNat = (nums s).length)) (List.drop 0 (List.take (IntKind.i64.wrap ((↑(nums d).length : Int) - 2)).toNat (nums s)))))] []) = true ∧ (decide (0 ≤ IntKind.i64.wrap ((↑(nums d).length : Int) - 2)) && true && ((nums d).isEmpty || 1 == 1) && decide ((IntKind.i64.wrap ((↑(nums d).length : Int) - 2)).toNat ≤ (nums d).length) && decide ((nums d).length ≤ (nums d).length)) = true ∧ (decide (0 ≤ IntKind.i64.wrap ((↑(nums d).length : Int) - 2)) && true && ((nums s).isEmpty || 1 == 1) && decide ((IntKind.i64.wrap ((↑(nums d).length : Int) - 2)).toNat ≤ (nums s).length) && decide ((nums s).length ≤ (nums s).length)) = true ∧ (pre0 2 [(.ptr 0 0), (.pv (.sl 1 (t && decide ((nums d).length = (nums d).length)) (List.drop (IntKind.i64.wrap ((↑(nums d).length : Int) - 2)).toNat (List.take (nums d).length (nums d))))), (.pv (.sl 1 (u && decide ((nums s).length = (nums s).length)) (List.drop (IntKind.i64.wrap ((↑(nums d).length : Int) - 2)).toNat (List.take (nums s).length (nums s)))))] [(.box [(.pv (.int .i64 o)), (.row 1 ((List.drop 0 (List.take (IntKind.i64.wrap ((↑(nums d).length : Int) - 2)).toNat (nums d))).length) 0 ((List.drop 0 (List.take (IntKind.i64.wrap ((↑(nums d).length : Int) - 2)).toNat (nums d))).length)), (.row 2 ((List.drop 0 (List.take (IntKind.i64.wrap ((↑(nums d).length : Int) - 2)).toNat (nums s))).length) 0 ((List.drop 0 (List.take (IntKind.i64.wrap ((↑(nums d).length : Int) - 2)).toNat (nums s))).length))]), (.row false 3 1 (List.drop 0 (List.take (IntKind.i64.wrap ((↑(nums d).length : Int) - 2)).toNat (nums d)))), (.row false 3 1 (List.drop 0 (List.take (IntKind.i64.wrap ((↑(nums d).length : Int) - 2)).toNat (nums s))))]) = true ∧ (((addL (List.drop 0 (List.take (IntKind.i64.wrap ((↑(nums d).length : Int) - 2)).toNat (nums d))) (dimC tranC (caOf o (List.drop 0 (List.take (IntKind.i64.wrap ((↑(nums d).length : Int) - 2)).toNat (nums d))) (List.drop 0 (List.take (IntKind.i64.wrap ((↑(nums d).length : Int) - 2)).toNat (nums s))) (List.drop (IntKind.i64.wrap ((↑(nums d).length : Int) - 2)).toNat (List.take (nums d).length (nums d))) (List.drop (IntKind.i64.wrap ((↑(nums d).length : Int) - 2)).toNat (List.take (nums s).length (nums s))) 0))).length == (addL (List.drop 0 (List.take (IntKind.i64.wrap ((↑(nums d).length : Int) - 2)).toNat (nums d))) (dimC tranC (caOf o (List.drop 0 (List.take (IntKind.i64.wrap ((↑(nums d).length : Int) - 2)).toNat (nums d))) (List.drop 0 (List.take (IntKind.i64.wrap ((↑(nums d).length : Int) - 2)).toNat (nums s))) (List.drop (IntKind.i64.wrap ((↑(nums d).length : Int) - 2)).toNat (List.take (nums d).length (nums d))) (List.drop (IntKind.i64.wrap ((↑(nums d).length : Int) - 2)).toNat (List.take (nums s).length (nums s))) 0))).length) = true ∧ (pre_size [(.sl 1 false (List.drop 0 (List.take (addL (List.drop 0 (List.take (IntKind.i64.wrap ((↑(nums d).length : Int) - 2)).toNat (nums d))) (dimC tranC (caOf o (List.drop 0 (List.take (IntKind.i64.wrap ((↑(nums d).length : Int) - 2)).toNat (nums d))) (List.drop 0 (List.take (IntKind.i64.wrap ((↑(nums d).length : Int) - 2)).toNat (nums s))) (List.drop (IntKind.i64.wrap ((↑(nums d).length : Int) - 2)).toNat (List.take (nums d).length (nums d))) (List.drop (IntKind.i64.wrap ((↑(nums d).length : Int) - 2)).toNat (List.take (nums s).length (nums s))) 0))).length (addL (List.drop 0 (List.take (IntKind.i64.wrap ((↑(nums d).length : Int) - 2)).toNat (nums d))) (dimC tranC (caOf o (List.drop 0 (List.take (IntKind.i64.wrap ((↑(nums d).length : Int) - 2)).toNat (nums d))) (List.drop 0 (List.take (IntKind.i64.wrap ((↑(nums d).length : Int) - 2)).toNat (nums s))) (List.drop (IntKind.i64.wrap ((↑(nums d).length : Int) - 2)).toNat (List.take (nums d).length (nums d))) (List.drop (IntKind.i64.wrap ((↑(nums d).length : Int) - 2)).toNat (List.take (nums s).length (nums s))) 0))))))]) = true ∧ (if ((sizeB (List.map PV.asInt (List.drop 0 (List.take (addL (List.drop 0 (List.take (IntKind.i64.wrap ((↑(nums d).length : Int) - 2)).toNat (nums d))) (dimC tranC (caOf o (List.drop 0 (List.take (IntKind.i64.wrap ((↑(nums d).length : Int) - 2)).toNat (nums d))) (List.drop 0 (List.take (IntKind.i64.wrap ((↑(nums d).length : Int) - 2)).toNat (nums s))) (List.drop (IntKind.i64.wrap ((↑(nums d).length : Int) - 2)).toNat (List.take (nums d).length (nums d))) (List.drop (IntKind.i64.wrap ((↑(nums d).length : Int) - 2)).toNat (List.take (nums s).length (nums s))) 0))).length (addL (List.drop 0 (List.take (IntKind.i64.wrap ((↑(nums d).length : Int) - 2)).toNat (nums d))) (dimC tranC (caOf o (List.drop 0 (List.take (IntKind.i64.wrap ((↑(nums d).length : Int) - 2)).toNat (nums d))) (List.drop 0 (List.take (IntKind.i64.wrap ((↑(nums d).length : Int) - 2)).toNat (nums s))) (List.drop (IntKind.i64.wrap ((↑(nums d).length : Int) - 2)).toNat (List.take (nums d).length (nums d))) (List.drop (IntKind.i64.wrap ((↑(nums d).length : Int) - 2)).toNat (List.take (nums s).length (nums s))) 0))))))).snd != 0) = true then ((.pv (.tup [(.agg [(.int .i64 0), (.sl 0 true []), (.sl 0 true [])]), (.int .i64 ((sizeB (List.map PV.asInt (List.drop 0 (List.take (addL (List.drop 0 (List.take (IntKind.i64.wrap ((↑(nums d).length : Int) - 2)).toNat (nums d))) (dimC tranC (caOf o (List.drop 0 (List.take (IntKind.i64.wrap ((↑(nums d).length : Int) - 2)).toNat (nums d))) (List.drop 0 (List.take (IntKind.i64.wrap ((↑(nums d).length : Int) - 2)).toNat (nums s))) (List.drop (IntKind.i64.wrap ((↑(nums d).length : Int) - 2)).toNat (List.take (nums d).length (nums d))) (List.drop (IntKind.i64.wrap ((↑(nums d).length : Int) - 2)).toNat (List.take (nums s).length (nums s))) 0))).length (addL (List.drop 0 (List.take (IntKind.i64.wrap ((↑(nums d).length : Int) - 2)).toNat (nums d))) (dimC tranC (caOf o (List.drop 0 (List.take (IntKind.i64.wrap ((↑(nums d).length : Int) - 2)).toNat (nums d))) (List.drop 0 (List.take (IntKind.i64.wrap ((↑(nums d).length : Int) - 2)).toNat (nums s))) (List.drop (IntKind.i64.wrap ((↑(nums d).length : Int) - 2)).toNat (List.take (nums d).length (nums d))) (List.drop (IntKind.i64.wrap ((↑(nums d).length : Int) - 2)).toNat (List.take (nums s).length (nums s))) 0))))))).snd))])), ([], [])) = r else (((addL (List.drop 0 (List.take (IntKind.i64.wrap ((↑(nums d).length : Int) - 2)).toNat (nums d))) (dimC tranC (caOf o (List.drop 0 (List.take (IntKind.i64.wrap ((↑(nums d).length : Int) - 2)).toNat (nums d))) (List.drop 0 (List.take (IntKind.i64.wrap ((↑(nums d).length : Int) - 2)).toNat (nums s))) (List.drop (IntKind.i64.wrap ((↑(nums d).length : Int) - 2)).toNat (List.take (nums d).length (nums d))) (List.drop (IntKind.i64.wrap ((↑(nums d).length : Int) - 2)).toNat (List.take (nums s).length (nums s))) 0))).length == (addL (List.drop 0 (List.take (IntKind.i64.wrap ((↑(nums d).length : Int) - 2)).toNat (nums d))) (dimC tranC (caOf o (List.drop 0 (List.take (IntKind.i64.wrap ((↑(nums d).length : Int) - 2)).toNat (nums d))) (List.drop 0 (List.take (IntKind.i64.wrap ((↑(nums d).length : Int) - 2)).toNat (nums s))) (List.drop (IntKind.i64.wrap ((↑(nums d).length : Int) - 2)).toNat (List.take (nums d).length (nums d))) (List.drop (IntKind.i64.wrap ((↑(nums d).length : Int) - 2)).toNat (List.take (nums s).length (nums s))) 0))).length) = true ∧ ((addL (List.drop 0 (List.take (IntKind.i64.wrap ((↑(nums d).length : Int) - 2)).toNat (nums s))) (strC tranC (caOf o (List.drop 0 (List.take (IntKind.i64.wrap ((↑(nums d).length : Int) - 2)).toNat (nums d))) (List.drop 0 (List.take (IntKind.i64.wrap ((↑(nums d).length : Int) - 2)).toNat (nums s))) (List.drop (IntKind.i64.wrap ((↑(nums d).length : Int) - 2)).toNat (List.take (nums d).length (nums d))) (List.drop (IntKind.i64.wrap ((↑(nums d).length : Int) - 2)).toNat (List.take (nums s).length (nums s))) 0))).length == (addL (List.drop 0 (List.take (IntKind.i64.wrap ((↑(nums d).length : Int) - 2)).toNat (nums s))) (strC tranC (caOf o (List.drop 0 (List.take (IntKind.i64.wrap ((↑(nums d).length : Int) - 2)).toNat (nums d))) (List.drop 0 (List.take (IntKind.i64.wrap ((↑(nums d).length : Int) - 2)).toNat (nums s))) (List.drop (IntKind.i64.wrap ((↑(nums d).length : Int) - 2)).toNat (List.take (nums d).length (nums d))) (List.drop (IntKind.i64.wrap ((↑(nums d).length : Int) - 2)).toNat (List.take (nums s).length (nums s))) 0))).length) = true ∧ (((.pv (.tup [(.agg [(.int .i64 (offC tranC (caOf o (List.drop 0 (List.take (IntKind.i64.wrap ((↑(nums d).length : Int) - 2)).toNat (nums d))) (List.drop 0 (List.take (IntKind.i64.wrap ((↑(nums d).length : Int) - 2)).toNat (nums s))) (List.drop (IntKind.i64.wrap ((↑(nums d).length : Int) - 2)).toNat (List.take (nums d).length (nums d))) (List.drop (IntKind.i64.wrap ((↑(nums d).length : Int) - 2)).toNat (List.take (nums s).length (nums s))) 0))), (.sl 1 false (List.drop 0 (List.take (addL (List.drop 0 (List.take (IntKind.i64.wrap ((↑(nums d).length : Int) - 2)).toNat (nums d))) (dimC tranC (caOf o (List.drop 0 (List.take (IntKind.i64.wrap ((↑(nums d).length : Int) - 2)).toNat (nums d))) (List.drop 0 (List.take (IntKind.i64.wrap ((↑(nums d).length : Int) - 2)).toNat (nums s))) (List.drop (IntKind.i64.wrap ((↑(nums d).length : Int) - 2)).toNat (List.take (nums d).length (nums d))) (List.drop (IntKind.i64.wrap ((↑(nums d).length : Int) - 2)).toNat (List.take (nums s).length (nums s))) 0))).length (addL (List.drop 0 (List.take (IntKind.i64.wrap ((↑(nums d).length : Int) - 2)).toNat (nums d))) (dimC tranC (caOf o (List.drop 0 (List.take (IntKind.i64.wrap ((↑(nums d).length : Int) - 2)).toNat (nums d))) (List.drop 0 (List.take (IntKind.i64.wrap ((↑(nums d).length : Int) - 2)).toNat (nums s))) (List.drop (IntKind.i64.wrap ((↑(nums d).length : Int) - 2)).toNat (List.take (nums d).length (nums d))) (List.drop (IntKind.i64.wrap ((↑(nums d).length : Int) - 2)).toNat (List.take (nums s).length (nums s))) 0)))))), (.sl 1 false (List.drop 0 (List.take (addL (List.drop 0 (List.take (IntKind.i64.wrap ((↑(nums d).length : Int) - 2)).toNat (nums s))) (strC tranC (caOf o (List.drop 0 (List.take (IntKind.i64.wrap ((↑(nums d).length : Int) - 2)).toNat (nums d))) (List.drop 0 (List.take (IntKind.i64.wrap ((↑(nums d).length : Int) - 2)).toNat (nums s))) (List.drop (IntKind.i64.wrap ((↑(nums d).length : Int) - 2)).toNat (List.take (nums d).length (nums d))) (List.drop (IntKind.i64.wrap ((↑(nums d).length : Int) - 2)).toNat (List.take (nums s).length (nums s))) 0))).length (addL (List.drop 0 (List.take (IntKind.i64.wrap ((↑(nums d).length : Int) - 2)).toNat (nums s))) (strC tranC (caOf o (List.drop 0 (List.take (IntKind.i64.wrap ((↑(nums d).length : Int) - 2)).toNat (nums d))) (List.drop 0 (List.take (IntKind.i64.wrap ((↑(nums d).length : Int) - 2)).toNat (nums s))) (List.drop (IntKind.i64.wrap ((↑(nums d).length : Int) - 2)).toNat (List.take (nums d).length (nums d))) (List.drop (IntKind.i64.wrap ((↑(nums d).length : Int) - 2)).toNat (List.take (nums s).length (nums s))) 0))))))]), (.int .i64 0)])), ([], [])) = r)))))))) : Gets T_stran 0 (fun st => finF 0 st rs_stran = some r) ic_stran [] (st0O 63 [.pv (.agg [.int .i64 o, .sl 1 t (nums d), .sl 1 u (nums s)]), .pv (.int .i64 2), .pv (.fn 90)] []) := Gets.wf (.req (.ask (.nil) (.lit (.lit (.ask (.nil) (.req (.req (.req (.req (.req (.req (.req (.lit (.lit (.req (.req (.lit (.ask (.nil) (.req (.req (.nil))))))))))))))))))))) h (by kernel_rfl)
end Go.Pl

namespace Go.Pl
open Go.RowKit
set_option maxRecDepth 100000
def caT (rk : Nat) (o : Int) (d s : List Int) (k : Int) : CA := ⟨o, d.take (d.length - rk), s.take (d.length - rk), d.drop (d.length - rk), s.drop (d.length - rk), k⟩
abbrev VR := (Int × List Int × List Int) × Int
def stepB (f : Chg) (rk : Nat) (o : Int) (d s : List Int) (k : Int) : VR :=
  bif formB d s then bif decide (d.length < rk) then ((0, [], []), 13) else
    bif errC f (caT rk o d s k) != 0 then ((0, [], []), errC f (caT rk o d s k)) else
    bif (sizeB (d.take (d.length - rk) ++ dimC f (caT rk o d s k))).2 != 0 then ((0, [], []), (sizeB (d.take (d.length - rk) ++ dimC f (caT rk o d s k))).2) else
    ((offC f (caT rk o d s k), d.take (d.length - rk) ++ dimC f (caT rk o d s k), s.take (d.length - rk) ++ strC f (caT rk o d s k)), 0)
  else ((0, [], []), 1)
def vrP (r : VR) : PV := .tup [.agg [.int .i64 r.1.1, .sl 1 false (nums r.1.2.1), .sl 1 false (nums r.1.2.2)], .int .i64 r.2]
def vrQ (r : VR) : PV := bif r.2 == 0 then vrP r else .tup [.agg [.int .i64 0, .sl 0 true [], .sl 0 true []], .int .i64 r.2]
theorem vrQ_sub {r : VR} (h : r.2 ≠ 0 → r.1 = (0, [], [])) : Sub (vrQ r) (vrP r) := by
  unfold vrQ
  cases e : r.2 == 0 with
  | true => exact .refl _
  | false =>
    have e' : r.2 ≠ 0 := by simpa using e
    have := h e'
    obtain ⟨⟨a, b, c⟩, x⟩ := r
    simp only [Prod.mk.injEq] at this
    obtain ⟨rfl, rfl, rfl⟩ := this
    exact .pair (.agg_cons (.refl _) (.agg_cons (.sl0 _ _ _) (.agg_cons (.sl0 _ _ _) .agg_nil))) (.refl _)
theorem stepB_err (f : Chg) (rk : Nat) (o : Int) (d s : List Int) (k : Int) : (stepB f rk o d s k).2 ≠ 0 → (stepB f rk o d s k).1 = (0, [], []) := by
  unfold stepB
  cases formB d s <;> simp
  by_cases h : d.length < rk <;> simp [h]
  cases h1 : errC f (caT rk o d s k) != 0 <;> simp
  cases h2 : (sizeB (d.take (d.length - rk) ++ dimC f (caT rk o d s k))).2 != 0 <;> simp
theorem form_ok {d s : List Int} (h : formB d s = true) : d.length ≤ 6 ∧ s.length = d.length := by
  simp only [formB, Bool.and_eq_true, beq_iff_eq, decide_eq_true_eq] at h
  exact ⟨(sizeB_ok (by simp [h.1])).1, h.2⟩
theorem dm_len {rk : Nat} {d : List Int} (h1 : d.length ≤ 6) (h2 : ¬ d.length < rk) : IntKind.i64.wrap ((d.length : Int) - (rk : Int)) = ((d.length - rk : Nat) : Int) := by
  rw [wrap64 (by omega) (by omega)]; omega
theorem pre_copyn_of {t : Bool} {xs : List Int} (h1 : xs.length ≤ 1000000) (h2 : xs.length ≠ 0) : pre_copyn [.pv (.sl 1 t (nums xs))] [] = true := by
  cases xs with
  | nil => simp at h2
  | cons x xs => simp [pre_copyn]; exact ⟨by simpa using h1, by simp [nums]⟩
theorem pre1_of {rk : Nat} {o k : Int} {d s ns ms : List Int} {t u : Bool} (h1 : d.length ≤ 10000) (h2 : s.length ≤ 10000) (h3 : ns.length = rk) (h4 : ms.length = rk) :
    pre1 rk [.ptr 0 0, .pv (.sl 1 t (nums ns)), .pv (.sl 1 u (nums ms)), .ptr 1 0] [.box [.pv (.int .i64 o), .row 2 d.length 0 d.length, .row 3 s.length 0 s.length], .box [.pv (.int .i64 k)], .row false 3 1 (nums d), .row false 3 1 (nums s)] = true := by
  simp [pre1, dec1, okA, h1, h2, h3, h4]
theorem pre0_of {rk : Nat} {o : Int} {d s ns ms : List Int} {t u : Bool} (h1 : d.length ≤ 10000) (h2 : s.length ≤ 10000) (h3 : ns.length = rk) (h4 : ms.length = rk) :
    pre0 rk [.ptr 0 0, .pv (.sl 1 t (nums ns)), .pv (.sl 1 u (nums ms))] [.box [.pv (.int .i64 o), .row 1 d.length 0 d.length, .row 2 s.length 0 s.length], .row false 3 1 (nums d), .row false 3 1 (nums s)] = true := by
  simp [pre0, dec0, okA, h1, h2, h3, h4]
def pre_st1 (g rk : Nat) : List AV → List AObj → Bool
  | [.pv p, .pv (.int .i64 r), .fn g' [] [.ptr 0 0]], [.box [.pv (.int .i64 _)]] => pre_view p && (r == rk && g' == g)
  | _, _ => false
def pre_sn1 (g rk : Nat) : List AV → List AObj → Bool
  | [.pv p, .pv (.int .i64 r), .fn g' [] [.ptr 0 0]], [.box [.pv (.int .i64 _)]] => pre_view p && (r == rk && (g' == g && decide (p.vD.length ≠ rk)))
  | _, _ => false
def val_st1 (f : Chg) (rk : Nat) : List AV → List AObj → AV × List AObj × List AObj
  | [.pv p, _, _], [.box [.pv (.int .i64 k)]] => (.pv (vrP (stepB f rk p.vO p.vD p.vS k)), [.box [.pv (.int .i64 k)]], [])
  | _, _ => (.junk, [], [])
def pre_st0 (g rk : Nat) : List AV → List AObj → Bool
  | [.pv p, .pv (.int .i64 r), .pv (.fn g')], [] => pre_view p && (r == rk && g' == g)
  | _, _ => false
def pre_sn0 (g rk : Nat) : List AV → List AObj → Bool
  | [.pv p, .pv (.int .i64 r), .pv (.fn g')], [] => pre_view p && (r == rk && (g' == g && decide (p.vD.length ≠ rk)))
  | _, _ => false
def val_st0 (f : Chg) (rk : Nat) : List AV → List AObj → AV × List AObj × List AObj
  | [.pv p, _, _], [] => (.pv (vrP (stepB f rk p.vO p.vD p.vS 0)), [], [])
  | _, _ => (.junk, [], [])
theorem swind_run : ∀ args os, pre_sn1 101 1 args os = true → ∃ p p' os' ext, Gets T_swind os.length (fun st => finF os.length st rs_swind = some (.pv p, os', ext)) ic_swind [] (st0O nt_swind args os) ∧ Sub p p' ∧ val_st1 windC 1 args os = (.pv p', os', ext) := by
  intro args os hp
  unfold pre_sn1 at hp
  split at hp
  · rename_i p r g' k
    simp only [Bool.and_eq_true, beq_iff_eq] at hp
    obtain ⟨hv, rfl, rfl, hne⟩ := hp
    obtain ⟨o, d, s, t, u, rfl, hd, hs⟩ := view_of hv
    simp only [vw_D, decide_eq_true_eq] at hne
    refine ⟨vrQ (stepB windC 1 o d s k), _, _, _, swind_s (r := (.pv (vrQ (stepB windC 1 o d s k)), [.box [.pv (.int .i64 k)]], [])) o d s t u k ?_, vrQ_sub (stepB_err _ _ _ _ _ _), by simp only [val_st1, vw_D, vw_S, vw_O]⟩
    refine ⟨by simpa [pre_v1] using hv, ?_⟩
    simp only [vw_D, vw_S]
    cases hf : formB d s with
    | false => simp [stepB, hf, vrQ]
    | true =>
      obtain ⟨h6, hl⟩ := form_ok hf
      rw [if_neg (by simp)]
      by_cases hr : d.length < 1
      · rw [if_pos (by simp only [nums_length, decide_eq_true_eq]; rw [wrap64 (by omega) (by omega)]; omega)]
        simp [stepB, hf, vrQ, hr]
      · have hK := dm_len h6 hr
        simp only [nums_length, List.drop_zero, Int.cast_ofNat_Int] at hK ⊢
        have hK' : (IntKind.i64.wrap ((d.length : Int) - (1 : Int))) = ((d.length - 1 : Nat) : Int) := by simpa using hK
        simp only [hK', Int.toNat_natCast, nums_take, nums_drop, List.take_length, caOf, asInt_nums, addL, ← nums_append, nums_length, PV.ns]
        rw [if_neg (by simp)]
        have ht : List.take d.length s = s := by rw [← hl]; exact List.take_length
        refine ⟨by simp, pre_copyn_of (by simp; omega) (by simp; omega), by simp; omega, pre_copyn_of (by simp; omega) (by simp only [List.length_take, hl]; omega), by simp, by simp; omega, ?_, ?_⟩
        · exact pre1_of (by simp; omega) (by simp; omega) (by simp; omega) (by simp; omega)
        · have hc : (⟨o, d.take (d.length - 1), s.take (d.length - 1), d.drop (d.length - 1), s.drop (d.length - 1), k⟩ : CA) = caT 1 o d s k := rfl
          simp only [hc]
          cases he : errC windC (caT 1 o d s k) != 0 with
          | true =>
            have he' : errC windC (caT 1 o d s k) ≠ 0 := by simpa using he
            simp [stepB, hf, vrQ, hr, he, beq_eq_false_iff_ne.2 he']
          | false =>
            have he' : errC windC (caT 1 o d s k) = 0 := by simpa using he
            rw [if_neg (by simp)]
            refine ⟨by simp, by simp [pre_size], ?_⟩
            cases hz : (sizeB (d.take (d.length - 1) ++ dimC windC (caT 1 o d s k))).2 != 0 with
            | true =>
              have hz' : (sizeB (d.take (d.length - 1) ++ dimC windC (caT 1 o d s k))).2 ≠ 0 := by simpa using hz
              simp [stepB, hf, vrQ, hr, he', hz, beq_eq_false_iff_ne.2 hz']
            | false =>
              have hz' : (sizeB (d.take (d.length - 1) ++ dimC windC (caT 1 o d s k))).2 = 0 := by simpa using hz
              simp [stepB, hf, vrQ, vrP, hr, he', hz, nums_append, nums_take, nums_drop]
  · cases hp
theorem stran_run : ∀ args os, pre_sn0 90 2 args os = true → ∃ p p' os' ext, Gets T_stran os.length (fun st => finF os.length st rs_stran = some (.pv p, os', ext)) ic_stran [] (st0O nt_stran args os) ∧ Sub p p' ∧ val_st0 tranC 2 args os = (.pv p', os', ext) := by
  intro args os hp
  unfold pre_sn0 at hp
  split at hp
  · rename_i p r g'
    simp only [Bool.and_eq_true, beq_iff_eq] at hp
    obtain ⟨hv, rfl, rfl, hne⟩ := hp
    obtain ⟨o, d, s, t, u, rfl, hd, hs⟩ := view_of hv
    simp only [vw_D, decide_eq_true_eq] at hne
    refine ⟨vrQ (stepB tranC 2 o d s 0), _, _, _, stran_s (r := (.pv (vrQ (stepB tranC 2 o d s 0)), [], [])) o d s t u ?_, vrQ_sub (stepB_err _ _ _ _ _ _), by simp only [val_st0, vw_D, vw_S, vw_O]⟩
    refine ⟨by simpa [pre_v1] using hv, ?_⟩
    simp only [vw_D, vw_S]
    cases hf : formB d s with
    | false => simp [stepB, hf, vrQ]
    | true =>
      obtain ⟨h6, hl⟩ := form_ok hf
      rw [if_neg (by simp)]
      by_cases hr : d.length < 2
      · rw [if_pos (by simp only [nums_length, decide_eq_true_eq]; rw [wrap64 (by omega) (by omega)]; omega)]
        simp [stepB, hf, vrQ, hr]
      · have hK := dm_len h6 hr
        simp only [nums_length, List.drop_zero, Int.cast_ofNat_Int] at hK ⊢
        have hK' : (IntKind.i64.wrap ((d.length : Int) - (2 : Int))) = ((d.length - 2 : Nat) : Int) := by simpa using hK
        simp only [hK', Int.toNat_natCast, nums_take, nums_drop, List.take_length, caOf, asInt_nums, addL, ← nums_append, nums_length, PV.ns]
        rw [if_neg (by simp)]
        have ht : List.take d.length s = s := by rw [← hl]; exact List.take_length
        refine ⟨by simp, pre_copyn_of (by simp; omega) (by simp; omega), by simp; omega, pre_copyn_of (by simp; omega) (by simp only [List.length_take, hl]; omega), by simp, by simp; omega, ?_, ?_⟩
        · exact pre0_of (by simp; omega) (by simp; omega) (by simp; omega) (by simp; omega)
        · have hc : (⟨o, d.take (d.length - 2), s.take (d.length - 2), d.drop (d.length - 2), s.drop (d.length - 2), 0⟩ : CA) = caT 2 o d s 0 := rfl
          simp only [hc]
          have he' : errC tranC (caT 2 o d s 0) = 0 := rfl
          refine ⟨by simp, by simp [pre_size], ?_⟩
          cases hz : (sizeB (d.take (d.length - 2) ++ dimC tranC (caT 2 o d s 0))).2 != 0 with
          | true =>
            have hz' : (sizeB (d.take (d.length - 2) ++ dimC tranC (caT 2 o d s 0))).2 ≠ 0 := by simpa using hz
            simp [stepB, hf, vrQ, hr, he', hz, beq_eq_false_iff_ne.2 hz']
          | false =>
            have hz' : (sizeB (d.take (d.length - 2) ++ dimC tranC (caT 2 o d s 0))).2 = 0 := by simpa using hz
            simp [stepB, hf, vrQ, vrP, hr, he', hz, nums_append, nums_take, nums_drop]
  · cases hp
end Go.Pl

namespace Go.Pl
open Go.RowKit
set_option maxRecDepth 100000
def ic_put0 : IC := (.reg [⟨(some 6), (.mv (.t 0)), 0, none⟩, ⟨(some 7), (.mv (.t 0)), 0, none⟩, ⟨(some 8), (.mv (.t 0)), 0, none⟩, ⟨(some 9), (.nilchk (.t 8)), 0, none⟩, ⟨(some 10), (.faddr 1 (.t 9)), 0, none⟩, ⟨(some 11), (.load false [(.sl 1)] (.t 10)), 0, none⟩, ⟨(some 12), (.mv (.t 1)), 0, none⟩, ⟨(some 13), (.bslice 3 1 1 (.int .i64 0) [(0, (.t 12))]), 0, none⟩, ⟨(some 14), (.append 3 1 8 (.t 11) (.t 13)), 1, none⟩, ⟨(some 15), (.mv (.t 0)), 2, none⟩, ⟨(some 16), (.nilchk (.t 15)), 2, none⟩, ⟨(some 17), (.faddr 2 (.t 16)), 2, none⟩, ⟨(some 18), (.load false [(.sl 1)] (.t 17)), 2, none⟩, ⟨(some 19), (.mv (.t 2)), 2, none⟩, ⟨(some 20), (.bslice 3 1 1 (.int .i64 0) [(0, (.t 19))]), 2, none⟩, ⟨(some 21), (.append 3 1 8 (.t 18) (.t 20)), 3, none⟩, ⟨(some 22), (.nilchk (.t 6)), 4, none⟩, ⟨(some 23), (.faddr 1 (.t 22)), 4, none⟩, ⟨none, (.store 1 (.t 23) (.t 14)), 4, none⟩, ⟨(some 24), (.nilchk (.t 7)), 4, none⟩, ⟨(some 25), (.faddr 2 (.t 24)), 4, none⟩, ⟨none, (.store 1 (.t 25) (.t 21)), 4, none⟩] (some [[], [], [], [2], [3, 2], [4, 3, 2], [], [6], [5, 7, 4, 3, 2, 6], [], [9], [10, 9], [11, 10, 9], [], [13], [12, 14, 8, 11, 10, 9, 13, 5, 7, 4, 3, 2, 6], [0, 2, 3, 4, 5, 6, 7, 8, 12, 15, 11, 10, 9, 14, 13], [16, 0, 2, 3, 4, 5, 6, 7, 8, 12, 15, 11, 10, 9, 14, 13], [17, 8, 15, 0, 2, 3, 4, 5, 6, 7, 12, 16, 11, 10, 9, 14, 13], [1, 0, 2, 3, 4, 5, 6, 7, 8, 9, 10, 11, 12, 13, 14, 15, 16, 17, 18], [19, 0, 1, 2, 3, 4, 5, 6, 7, 8, 9, 10, 11, 12, 13, 14, 15, 16, 17, 18], [20, 15, 18, 0, 1, 2, 3, 4, 5, 6, 7, 8, 9, 10, 11, 12, 13, 14, 16, 17, 19]]))
def rs_put0 : List IRes := []
abbrev nt_put0 : Nat := 26
def T_put0 : Tab := tab []
theorem put0_s {r : AV × List AObj × List AObj} (o n m : Int) (h : ((.tup []), ([(.box [(.pv (.int .i64 o)), (.row 1 1 0 1), (.row 2 1 0 1)])], [(.row false 3 1 [(.int .i64 n)]), (.row false 3 1 [(.int .i64 m)])])) = r) : Gets T_put0 1 (fun st => finO 1 st rs_put0 = some r) ic_put0 [] (st0O 26 [.ptr 0 0, .pv (.int .i64 n), .pv (.int .i64 m)] [.box [.pv (.int .i64 o), .pv (.sl 1 true []), .pv (.sl 1 true [])]]) := Gets.wo (.lit (.lit (.lit (.lit (.lit (.lit (.lit (.lit (.lit (.lit (.nil))))))))))) h (by kernel_rfl)
def ic_wind0 : IC := (.seq (.reg [⟨(some 7), (.mv (.c (.int .i64 0))), 0, none⟩] none) (.seq (.seq (.reg [⟨(some 8), (.load false [(.int .i64)] (.t 3)), 0, none⟩, ⟨(some 9), (.bin .num .lss (.t 8) (.c (.int .i64 0))), 0, none⟩, ⟨(some 10), (.mv (.t 9)), 0, none⟩, ⟨(some 11), (.load false [(.int .i64)] (.t 3)), 0, (some (10, false))⟩, ⟨(some 12), (.mv (.t 1)), 0, (some (10, false))⟩, ⟨(some 13), (.iaddr 1 (.t 12) (.c (.int .i64 0))), 0, (some (10, false))⟩, ⟨(some 14), (.load false [(.int .i64)] (.t 13)), 0, (some (10, false))⟩, ⟨(some 15), (.bin .num .gtr (.t 11) (.t 14)), 0, (some (10, false))⟩, ⟨(some 16), (.pick (.t 10) (.c (.bool true)) (.t 15)), 0, none⟩] (some [[], [0], [1, 0], [2, 1, 0], [2, 1, 0], [4, 2, 1, 0], [5, 2, 4, 1, 0], [3, 6, 2, 1, 0, 5, 4], [2, 7, 1, 0, 3, 6, 5, 4]])) (.cond (.t 16) (.seq (.reg [⟨(some 7), (.mv (.c (.int .i64 2))), 0, none⟩] none) .ret) .skip)) (.seq (.reg [⟨(some 17), (.mv (.t 0)), 0, none⟩, ⟨(some 18), (.mv (.t 1)), 0, none⟩, ⟨(some 19), (.iaddr 1 (.t 18) (.c (.int .i64 0))), 0, none⟩, ⟨(some 20), (.load false [(.int .i64)] (.t 19)), 0, none⟩, ⟨(some 21), (.load false [(.int .i64)] (.t 3)), 0, none⟩, ⟨(some 22), (.bin .num .sub (.t 20) (.t 21)), 0, none⟩, ⟨(some 23), (.bin .num .add (.t 22) (.c (.int .i64 1))), 0, none⟩, ⟨(some 24), (.mv (.t 2)), 0, none⟩, ⟨(some 25), (.iaddr 1 (.t 24) (.c (.int .i64 0))), 0, none⟩, ⟨(some 26), (.load false [(.int .i64)] (.t 25)), 0, none⟩, ⟨(some 27), (.call (.c (.fn 89)) [(.t 17), (.t 23), (.t 26)]), 0, none⟩] (some [[], [], [1], [2, 1], [], [3, 4, 2, 1], [5, 3, 4, 2, 1], [], [7], [8, 7], [0, 6, 9, 5, 3, 4, 2, 1, 8, 7]])) (.seq (.reg [⟨(some 28), (.mv (.t 0)), 0, none⟩, ⟨(some 29), (.load false [(.int .i64)] (.t 3)), 0, none⟩, ⟨(some 30), (.mv (.t 2)), 0, none⟩, ⟨(some 31), (.iaddr 1 (.t 30) (.c (.int .i64 0))), 0, none⟩, ⟨(some 32), (.load false [(.int .i64)] (.t 31)), 0, none⟩, ⟨(some 33), (.call (.c (.fn 89)) [(.t 28), (.t 29), (.t 32)]), 0, none⟩] (some [[], [], [], [2], [3, 2], [0, 1, 4, 3, 2]])) (.seq (.reg [⟨(some 7), (.mv (.c (.int .i64 0))), 0, none⟩] none) .ret)))))
def rs_wind0 : List IRes := [(.tmp 7)]
abbrev nt_wind0 : Nat := 34
def T_wind0 : Tab := tab [(89, .own pre_putc val_putc)]
theorem wind0_s {r : AV × List AObj × List AObj} (o : Int) (ns ms : List Int) (t u : Bool) (k : Int) (h : if (decide (k < 0)) = true then ((.pv (.int .i64 2)), ([(.box [(.pv (.int .i64 o)), (.pv (.sl 1 true [])), (.pv (.sl 1 true []))]), (.box [(.pv (.int .i64 k))])], [])) = r else ((decide (0 ≤ 0) && decide (Int.toNat 0 < (nums ns).length) && 1 == 1) = true ∧ ((decide (0 + [Sh.int .i64].length ≤ ((nums ns).getD (Int.toNat 0) default).cells.length) && shFit ((nums ns).getD (Int.toNat 0) default).cells 0 [Sh.int .i64]) = true ∧ (if (decide (k > (((nums ns).getD (Int.toNat 0) default).cells.getD 0 default).asInt)) = true then ((.pv (.int .i64 2)), ([(.box [(.pv (.int .i64 o)), (.pv (.sl 1 true [])), (.pv (.sl 1 true []))]), (.box [(.pv (.int .i64 k))])], [])) = r else ((decide (0 ≤ 0) && decide (Int.toNat 0 < (nums ns).length) && 1 == 1) = true ∧ (decide (0 + [Sh.int .i64].length ≤ ((nums ns).getD (Int.toNat 0) default).cells.length) && shFit ((nums ns).getD (Int.toNat 0) default).cells 0 [Sh.int .i64]) = true ∧ (decide (0 ≤ 0) && decide (Int.toNat 0 < (nums ms).length) && 1 == 1) = true ∧ (decide (0 + [Sh.int .i64].length ≤ ((nums ms).getD (Int.toNat 0) default).cells.length) && shFit ((nums ms).getD (Int.toNat 0) default).cells 0 [Sh.int .i64]) = true ∧ (decide (0 ≤ 0) && decide (Int.toNat 0 < (nums ms).length) && 1 == 1) = true ∧ (decide (0 + [Sh.int .i64].length ≤ ((nums ms).getD (Int.toNat 0) default).cells.length) && shFit ((nums ms).getD (Int.toNat 0) default).cells 0 [Sh.int .i64]) = true ∧ (((.pv (.int .i64 0)), ([(.box [(.pv (.int .i64 o)), (.pv (.sl 1 false [(.int .i64 (IntKind.i64.wrap (IntKind.i64.wrap ((((nums ns).getD (Int.toNat 0) default).cells.getD 0 default).asInt - k) + 1))), (.int .i64 k)])), (.pv (.sl 1 false [(.int .i64 ((((nums ms).getD (Int.toNat 0) default).cells.getD 0 default).asInt)), (.int .i64 ((((nums ms).getD (Int.toNat 0) default).cells.getD 0 default).asInt))]))]), (.box [(.pv (.int .i64 k))])], [])) = r)))))) : Gets T_wind0 2 (fun st => finF 2 st rs_wind0 = some r) ic_wind0 [] (st0O 34 [.ptr 0 0, .pv (.sl 1 t (nums ns)), .pv (.sl 1 u (nums ms)), .ptr 1 0] [.box [.pv (.int .i64 o), .pv (.sl 1 true []), .pv (.sl 1 true [])], .box [.pv (.int .i64 k)]]) := Gets.wf (.lit (.ask (.lit (.lit (.lit (.lit (.lit (.lit (.nil))))))) (.lit (.lit (.req (.lit (.req (.lit (.lit (.lit (.ask (.nil) (.req (.req (.lit (.lit (.req (.req (.lit (.req (.req (.lit (.lit (.lit (.nil)))))))))))))))))))))))) h (by kernel_rfl)
def ic_tran0 : IC := (.seq (.reg [⟨(some 6), (.mv (.c (.int .i64 0))), 0, none⟩] none) (.seq (.reg [⟨(some 7), (.mv (.t 0)), 0, none⟩, ⟨(some 8), (.mv (.t 1)), 0, none⟩, ⟨(some 9), (.iaddr 1 (.t 8) (.c (.int .i64 1))), 0, none⟩, ⟨(some 10), (.load false [(.int .i64)] (.t 9)), 0, none⟩, ⟨(some 11), (.mv (.t 2)), 0, none⟩, ⟨(some 12), (.iaddr 1 (.t 11) (.c (.int .i64 1))), 0, none⟩, ⟨(some 13), (.load false [(.int .i64)] (.t 12)), 0, none⟩, ⟨(some 14), (.call (.c (.fn 89)) [(.t 7), (.t 10), (.t 13)]), 0, none⟩] (some [[], [], [1], [2, 1], [], [4], [5, 4], [0, 3, 6, 2, 1, 5, 4]])) (.seq (.reg [⟨(some 15), (.mv (.t 0)), 0, none⟩, ⟨(some 16), (.mv (.t 1)), 0, none⟩, ⟨(some 17), (.iaddr 1 (.t 16) (.c (.int .i64 0))), 0, none⟩, ⟨(some 18), (.load false [(.int .i64)] (.t 17)), 0, none⟩, ⟨(some 19), (.mv (.t 2)), 0, none⟩, ⟨(some 20), (.iaddr 1 (.t 19) (.c (.int .i64 0))), 0, none⟩, ⟨(some 21), (.load false [(.int .i64)] (.t 20)), 0, none⟩, ⟨(some 22), (.call (.c (.fn 89)) [(.t 15), (.t 18), (.t 21)]), 0, none⟩] (some [[], [], [1], [2, 1], [], [4], [5, 4], [0, 3, 6, 2, 1, 5, 4]])) (.seq (.reg [⟨(some 6), (.mv (.c (.int .i64 0))), 0, none⟩] none) .ret))))
def rs_tran0 : List IRes := [(.tmp 6)]
abbrev nt_tran0 : Nat := 23
def T_tran0 : Tab := tab [(89, .own pre_putc val_putc)]
theorem tran0_s {r : AV × List AObj × List AObj} (o : Int) (ns ms : List Int) (t u : Bool) (h : (decide (0 ≤ 1) && decide (Int.toNat 1 < (nums ns).length) && 1 == 1) = true ∧ (decide (0 + [Sh.int .i64].length ≤ ((nums ns).getD (Int.toNat 1) default).cells.length) && shFit ((nums ns).getD (Int.toNat 1) default).cells 0 [Sh.int .i64]) = true ∧ (decide (0 ≤ 1) && decide (Int.toNat 1 < (nums ms).length) && 1 == 1) = true ∧ (decide (0 + [Sh.int .i64].length ≤ ((nums ms).getD (Int.toNat 1) default).cells.length) && shFit ((nums ms).getD (Int.toNat 1) default).cells 0 [Sh.int .i64]) = true ∧ (decide (0 ≤ 0) && decide (Int.toNat 0 < (nums ns).length) && 1 == 1) = true ∧ (decide (0 + [Sh.int .i64].length ≤ ((nums ns).getD (Int.toNat 0) default).cells.length) && shFit ((nums ns).getD (Int.toNat 0) default).cells 0 [Sh.int .i64]) = true ∧ (decide (0 ≤ 0) && decide (Int.toNat 0 < (nums ms).length) && 1 == 1) = true ∧ (decide (0 + [Sh.int .i64].length ≤ ((nums ms).getD (Int.toNat 0) default).cells.length) && shFit ((nums ms).getD (Int.toNat 0) default).cells 0 [Sh.int .i64]) = true ∧ (((.pv (.int .i64 0)), ([(.box [(.pv (.int .i64 o)), (.pv (.sl 1 false [(.int .i64 ((((nums ns).getD (Int.toNat 1) default).cells.getD 0 default).asInt)), (.int .i64 ((((nums ns).getD (Int.toNat 0) default).cells.getD 0 default).asInt))])), (.pv (.sl 1 false [(.int .i64 ((((nums ms).getD (Int.toNat 1) default).cells.getD 0 default).asInt)), (.int .i64 ((((nums ms).getD (Int.toNat 0) default).cells.getD 0 default).asInt))]))])], [])) = r)) : Gets T_tran0 1 (fun st => finF 1 st rs_tran0 = some r) ic_tran0 [] (st0O 23 [.ptr 0 0, .pv (.sl 1 t (nums ns)), .pv (.sl 1 u (nums ms))] [.box [.pv (.int .i64 o), .pv (.sl 1 true []), .pv (.sl 1 true [])]]) := Gets.wf (.req (.req (.req (.req (.lit (.req (.req (.req (.req (.lit (.lit (.lit (.nil))))))))))))) h (by kernel_rfl)
end Go.Pl

namespace Go.Pl
open Go.RowKit
set_option maxRecDepth 100000
theorem put0_run : ∀ args os, pre_put0 args os = true → Gets T_put0 os.length (fun st => finO os.length st rs_put0 = some (val_put0 args os)) ic_put0 [] (st0O nt_put0 args os) := by
  intro args os hp
  unfold pre_put0 at hp
  split at hp
  · rename_i n m o
    exact put0_s o n m rfl
  · cases hp
theorem wind0_run : ∀ args os, pre_c1z 1 args os = true → ∃ p p' os' ext, Gets T_wind0 os.length (fun st => finF os.length st rs_wind0 = some (.pv p, os', ext)) ic_wind0 [] (st0O nt_wind0 args os) ∧ Sub p p' ∧ val_c1z windC args os = (.pv p', os', ext) := by
  intro args os hp
  unfold pre_c1z at hp
  split at hp
  · rename_i t ns u ms o k
    simp only [Bool.and_eq_true, decide_eq_true_eq] at hp
    obtain ⟨h1, h2, h3, h4⟩ := hp
    obtain ⟨ns, rfl⟩ := nums_of h1
    obtain ⟨ms, rfl⟩ := nums_of h2
    rw [nums_length] at h3 h4
    match ns, ms, h3, h4 with
    | [n], [m], _, _ =>
      have key : Gets T_wind0 2 (fun st => finF 2 st rs_wind0 = some (val_c1z windC [.ptr 0 0, .pv (.sl 1 t (nums [n])), .pv (.sl 1 u (nums [m])), .ptr 1 0] [.box [.pv (.int .i64 o), .pv (.sl 1 true []), .pv (.sl 1 true [])], .box [.pv (.int .i64 k)]])) ic_wind0 [] (st0O nt_wind0 [.ptr 0 0, .pv (.sl 1 t (nums [n])), .pv (.sl 1 u (nums [m])), .ptr 1 0] [.box [.pv (.int .i64 o), .pv (.sl 1 true []), .pv (.sl 1 true [])], .box [.pv (.int .i64 k)]]) := by
        refine wind0_s o [n] [m] t u k ?_
        by_cases a1 : k < 0
        · simp [nums, PV.cells, PV.asInt, Sh.co, Sh.fit, shFit, val_c1z, caOf, windC, n0, m0, n1, m1, w64, errC, offC, dimC, strC, slT, a1]
        · by_cases a2 : k > n
          · simp [nums, PV.cells, PV.asInt, Sh.co, Sh.fit, shFit, val_c1z, caOf, windC, n0, m0, n1, m1, w64, errC, offC, dimC, strC, slT, a1, a2]
          · simp [nums, PV.cells, PV.asInt, Sh.co, Sh.fit, shFit, val_c1z, caOf, windC, n0, m0, n1, m1, w64, errC, offC, dimC, strC, slT, a1, a2]
      exact ⟨_, _, _, _, key, .refl _, rfl⟩
  · cases hp
theorem tran0_run : ∀ args os, pre_c0z 2 args os = true → ∃ p p' os' ext, Gets T_tran0 os.length (fun st => finF os.length st rs_tran0 = some (.pv p, os', ext)) ic_tran0 [] (st0O nt_tran0 args os) ∧ Sub p p' ∧ val_c0z tranC args os = (.pv p', os', ext) := by
  intro args os hp
  unfold pre_c0z at hp
  split at hp
  · rename_i t ns u ms o
    simp only [Bool.and_eq_true, decide_eq_true_eq] at hp
    obtain ⟨h1, h2, h3, h4⟩ := hp
    obtain ⟨ns, rfl⟩ := nums_of h1
    obtain ⟨ms, rfl⟩ := nums_of h2
    rw [nums_length] at h3 h4
    match ns, ms, h3, h4 with
    | [n, n'], [m, m'], _, _ =>
      have key : Gets T_tran0 1 (fun st => finF 1 st rs_tran0 = some (val_c0z tranC [.ptr 0 0, .pv (.sl 1 t (nums [n, n'])), .pv (.sl 1 u (nums [m, m']))] [.box [.pv (.int .i64 o), .pv (.sl 1 true []), .pv (.sl 1 true [])]])) ic_tran0 [] (st0O nt_tran0 [.ptr 0 0, .pv (.sl 1 t (nums [n, n'])), .pv (.sl 1 u (nums [m, m']))] [.box [.pv (.int .i64 o), .pv (.sl 1 true []), .pv (.sl 1 true [])]]) := by
        refine tran0_s o [n, n'] [m, m'] t u ?_
        simp [nums, PV.cells, PV.asInt, Sh.co, Sh.fit, shFit, val_c0z, caOf, tranC, n0, m0, n1, m1, w64, errC, offC, dimC, strC, slT]
      exact ⟨_, _, _, _, key, .refl _, rfl⟩
  · cases hp
end Go.Pl

namespace Go.Pl
open Go.RowKit
set_option maxRecDepth 100000
def ic_zwind : IC := (.seq (.reg [⟨(some 3), (.box 3 (.t 0)), 0, none⟩, ⟨(some 6), (.alloc (.agg [(.int .i64 0), (.sl 0 true []), (.sl 0 true [])])), 1, none⟩, ⟨(some 7), (.mv (.c (.int .i64 0))), 2, none⟩] none) (.seq (.seq (.reg [⟨(some 13), (.load true [(.int .i64), (.sl 1), (.sl 1)] (.t 3)), 0, none⟩, ⟨(some 14), (.call (.c (.fn 76)) [(.t 13)]), 0, none⟩, ⟨(some 15), (.un .not (.t 14)), 2, none⟩] none) (.cond (.t 15) (.seq (.reg [⟨(some 16), (.build [(.int .i64 0), (.sl 0 true []), (.sl 0 true [])] []), 0, none⟩, ⟨none, (.store 3 (.t 6) (.t 16)), 0, none⟩, ⟨(some 7), (.mv (.c (.int .i64 1))), 0, none⟩] none) .ret) .skip)) (.seq (.reg [⟨(some 17), (.faddr 1 (.t 3)), 0, none⟩, ⟨(some 18), (.load false [(.sl 1)] (.t 17)), 0, none⟩, ⟨(some 19), (.len 1 (.t 18)), 0, none⟩, ⟨(some 20), (.mv (.t 1)), 0, none⟩, ⟨(some 21), (.bin .num .sub (.t 19) (.t 20)), 0, none⟩, ⟨(some 8), (.mv (.t 21)), 0, none⟩] none) (.seq (.seq (.reg [⟨(some 22), (.mv (.t 8)), 0, none⟩, ⟨(some 23), (.bin .num .lss (.t 22) (.c (.int .i64 0))), 0, none⟩] none) (.cond (.t 23) (.seq (.reg [⟨(some 24), (.build [(.int .i64 0), (.sl 0 true []), (.sl 0 true [])] []), 0, none⟩, ⟨none, (.store 3 (.t 6) (.t 24)), 0, none⟩, ⟨(some 7), (.mv (.c (.int .i64 13))), 0, none⟩] none) .ret) .skip)) (.seq (.reg [⟨(some 25), (.faddr 0 (.t 3)), 0, none⟩, ⟨(some 26), (.load false [(.int .i64)] (.t 25)), 0, none⟩, ⟨(some 27), (.faddr 1 (.t 3)), 0, none⟩, ⟨(some 28), (.load false [(.sl 1)] (.t 27)), 0, none⟩, ⟨(some 29), (.mv (.t 8)), 0, none⟩, ⟨(some 30), (.slc 1 (.t 28) none (some (.t 29)) none), 0, none⟩, ⟨(some 31), (.call (.c (.fn 74)) [(.t 30)]), 0, none⟩, ⟨(some 32), (.faddr 2 (.t 3)), 2, none⟩, ⟨(some 33), (.load false [(.sl 1)] (.t 32)), 2, none⟩, ⟨(some 34), (.mv (.t 8)), 2, none⟩, ⟨(some 35), (.slc 1 (.t 33) none (some (.t 34)) none), 2, none⟩, ⟨(some 36), (.call (.c (.fn 74)) [(.t 35)]), 2, none⟩, ⟨(some 37), (.build [(.int .i64 0), (.sl 0 true []), (.sl 0 true [])] [(0, (1, (.t 26))), (1, (1, (.t 31))), (2, (1, (.t 36)))]), 4, none⟩, ⟨(some 9), (.alloc (.agg [(.int .i64 0), (.sl 0 true []), (.sl 0 true [])])), 4, none⟩, ⟨none, (.store 3 (.t 9) (.t 37)), 5, none⟩] (some [[], [0], [], [2], [], [3, 4, 2], [5, 3, 4, 2], [], [7], [], [8, 9, 7], [10, 6, 8, 9, 7, 5, 3, 4, 2], [1, 6, 11, 0, 5, 3, 4, 2, 10, 8, 9, 7], [], [13, 12, 11, 0, 1, 2, 3, 4, 5, 6, 7, 8, 9, 10]])) (.seq (.seq (.reg [⟨(some 38), (.mv (.t 2)), 0, none⟩, ⟨(some 39), (.faddr 1 (.t 3)), 0, none⟩, ⟨(some 40), (.load false [(.sl 1)] (.t 39)), 0, none⟩, ⟨(some 41), (.mv (.t 8)), 0, none⟩, ⟨(some 42), (.slc 1 (.t 40) (some (.t 41)) none none), 0, none⟩, ⟨(some 43), (.faddr 2 (.t 3)), 0, none⟩, ⟨(some 44), (.load false [(.sl 1)] (.t 43)), 0, none⟩, ⟨(some 45), (.mv (.t 8)), 0, none⟩, ⟨(some 46), (.slc 1 (.t 44) (some (.t 45)) none none), 0, none⟩, ⟨(some 47), (.call (.t 38) [(.t 9), (.t 42), (.t 46)]), 0, none⟩, ⟨(some 10), (.mv (.t 47)), 2, none⟩] (some [[], [], [1], [], [2, 3, 1], [], [5], [], [6, 7, 5], [0, 4, 8, 2, 3, 1, 6, 7, 5], [9, 0, 1, 2, 3, 4, 5, 6, 7, 8]])) (.seq (.reg [⟨(some 48), (.mv (.t 10)), 0, none⟩, ⟨(some 49), (.bin .num .neq (.t 48) (.c (.int .i64 0))), 0, none⟩] none) (.cond (.t 49) (.seq (.reg [⟨(some 50), (.build [(.int .i64 0), (.sl 0 true []), (.sl 0 true [])] []), 0, none⟩, ⟨(some 51), (.mv (.t 10)), 0, none⟩, ⟨none, (.store 3 (.t 6) (.t 50)), 0, none⟩, ⟨(some 7), (.mv (.t 51)), 0, none⟩] none) .ret) .skip))) (.seq (.seq (.reg [⟨(some 53), (.faddr 1 (.t 9)), 0, none⟩, ⟨(some 54), (.load false [(.sl 1)] (.t 53)), 0, none⟩, ⟨(some 55), (.call (.c (.fn 73)) [(.t 54)]), 0, none⟩, ⟨(some 52), (.mv (.t 55)), 2, none⟩, ⟨(some 56), (.extract (.t 52) 0), 2, none⟩, ⟨(some 57), (.extract (.t 52) 1), 2, none⟩, ⟨(some 11), (.mv (.t 56)), 2, none⟩, ⟨(some 12), (.mv (.t 57)), 2, none⟩] none) (.seq (.reg [⟨(some 58), (.mv (.t 12)), 0, none⟩, ⟨(some 59), (.bin .num .neq (.t 58) (.c (.int .i64 0))), 0, none⟩] none) (.cond (.t 59) (.seq (.reg [⟨(some 60), (.build [(.int .i64 0), (.sl 0 true []), (.sl 0 true [])] []), 0, none⟩, ⟨(some 61), (.mv (.t 12)), 0, none⟩, ⟨none, (.store 3 (.t 6) (.t 60)), 0, none⟩, ⟨(some 7), (.mv (.t 61)), 0, none⟩] none) .ret) .skip))) (.seq (.reg [⟨(some 62), (.load true [(.int .i64), (.sl 1), (.sl 1)] (.t 9)), 0, none⟩, ⟨none, (.store 3 (.t 6) (.t 62)), 0, none⟩, ⟨(some 7), (.mv (.c (.int .i64 0))), 0, none⟩] none) .ret))))))))
def rs_zwind : List IRes := [(.cell true 3 6), (.tmp 7)]
abbrev nt_zwind : Nat := 63
def T_zwind : Tab := tab [(76, .pure pre_v1 val_formed), (74, .own pre_copyz val_copyz), (73, .pure pre_size val_size), (101, .own (pre_c1z 1) (val_c1z windC))]
theorem zwind_s {r : AV × List AObj × List AObj} (o : Int) (d s : List Int) (t u : Bool) (k : Int) (h : (pre_v1 [(.agg [(.int .i64 o), (.sl 1 t (nums d)), (.sl 1 u (nums s))])]) = true ∧ (if (!formB (PV.agg [PV.int .i64 o, PV.sl 1 t (nums d), PV.sl 1 u (nums s)]).vD (PV.agg [PV.int .i64 o, PV.sl 1 t (nums d), PV.sl 1 u (nums s)]).vS) = true then ((.pv (.tup [(.agg [(.int .i64 0), (.sl 0 true []), (.sl 0 true [])]), (.int .i64 1)])), ([(.box [(.pv (.int .i64 k))])], [])) = r else (if (decide (IntKind.i64.wrap ((↑(nums d).length : Int) - 1) < 0)) = true then ((.pv (.tup [(.agg [(.int .i64 0), (.sl 0 true []), (.sl 0 true [])]), (.int .i64 13)])), ([(.box [(.pv (.int .i64 k))])], [])) = r else ((true && decide (0 ≤ IntKind.i64.wrap ((↑(nums d).length : Int) - 1)) && ((nums d).isEmpty || 1 == 1) && decide (0 ≤ (IntKind.i64.wrap ((↑(nums d).length : Int) - 1)).toNat) && decide ((IntKind.i64.wrap ((↑(nums d).length : Int) - 1)).toNat ≤ (nums d).length)) = true ∧ (pre_copyz [(.pv (.sl 1 (t && decide ((IntKind.i64.wrap ((↑(nums d).length : Int) - 1)).toNat = (nums d).length)) (List.drop 0 (List.take (IntKind.i64.wrap ((↑(nums d).length : Int) - 1)).toNat (nums d)))))] []) = true ∧ (true && decide (0 ≤ IntKind.i64.wrap ((↑(nums d).length : Int) - 1)) && ((nums s).isEmpty || 1 == 1) && decide (0 ≤ (IntKind.i64.wrap ((↑(nums d).length : Int) - 1)).toNat) && decide ((IntKind.i64.wrap ((↑(nums d).length : Int) - 1)).toNat ≤ (nums s).length)) = true ∧ (pre_copyz [(.pv (.sl 1 (u && decide ((IntKind.i64.wrap ((↑(nums d).length : Int) - 1)).toNat = (nums s).length)) (List.drop 0 (List.take (IntKind.i64.wrap ((↑(nums d).length : Int) - 1)).toNat (nums s)))))] []) = true ∧ (decide (0 ≤ IntKind.i64.wrap ((↑(nums d).length : Int) - 1)) && true && ((nums d).isEmpty || 1 == 1) && decide ((IntKind.i64.wrap ((↑(nums d).length : Int) - 1)).toNat ≤ (nums d).length) && decide ((nums d).length ≤ (nums d).length)) = true ∧ (decide (0 ≤ IntKind.i64.wrap ((↑(nums d).length : Int) - 1)) && true && ((nums s).isEmpty || 1 == 1) && decide ((IntKind.i64.wrap ((↑(nums d).length : Int) - 1)).toNat ≤ (nums s).length) && decide ((nums s).length ≤ (nums s).length)) = true ∧ (pre_c1z 1 [(.ptr 0 0), (.pv (.sl 1 (t && decide ((nums d).length = (nums d).length)) (List.drop (IntKind.i64.wrap ((↑(nums d).length : Int) - 1)).toNat (List.take (nums d).length (nums d))))), (.pv (.sl 1 (u && decide ((nums s).length = (nums s).length)) (List.drop (IntKind.i64.wrap ((↑(nums d).length : Int) - 1)).toNat (List.take (nums s).length (nums s))))), (.ptr 1 0)] [(.box [(.pv (.int .i64 o)), (.pv (.sl 1 true [])), (.pv (.sl 1 true []))]), (.box [(.pv (.int .i64 k))])]) = true ∧ (if (errC windC (caOf o [] [] (List.drop (IntKind.i64.wrap ((↑(nums d).length : Int) - 1)).toNat (List.take (nums d).length (nums d))) (List.drop (IntKind.i64.wrap ((↑(nums d).length : Int) - 1)).toNat (List.take (nums s).length (nums s))) k) != 0) = true then ((.pv (.tup [(.agg [(.int .i64 0), (.sl 0 true []), (.sl 0 true [])]), (.int .i64 (errC windC (caOf o [] [] (List.drop (IntKind.i64.wrap ((↑(nums d).length : Int) - 1)).toNat (List.take (nums d).length (nums d))) (List.drop (IntKind.i64.wrap ((↑(nums d).length : Int) - 1)).toNat (List.take (nums s).length (nums s))) k)))])), ([(.box [(.pv (.int .i64 k))])], [])) = r else ((pre_size [(.sl 1 ((dimC windC (caOf o [] [] (List.drop (IntKind.i64.wrap ((↑(nums d).length : Int) - 1)).toNat (List.take (nums d).length (nums d))) (List.drop (IntKind.i64.wrap ((↑(nums d).length : Int) - 1)).toNat (List.take (nums s).length (nums s))) k)).isEmpty) (nums (dimC windC (caOf o [] [] (List.drop (IntKind.i64.wrap ((↑(nums d).length : Int) - 1)).toNat (List.take (nums d).length (nums d))) (List.drop (IntKind.i64.wrap ((↑(nums d).length : Int) - 1)).toNat (List.take (nums s).length (nums s))) k))))]) = true ∧ (if ((sizeB (List.map PV.asInt (nums (dimC windC (caOf o [] [] (List.drop (IntKind.i64.wrap ((↑(nums d).length : Int) - 1)).toNat (List.take (nums d).length (nums d))) (List.drop (IntKind.i64.wrap ((↑(nums d).length : Int) - 1)).toNat (List.take (nums s).length (nums s))) k))))).snd != 0) = true then ((.pv (.tup [(.agg [(.int .i64 0), (.sl 0 true []), (.sl 0 true [])]), (.int .i64 ((sizeB (List.map PV.asInt (nums (dimC windC (caOf o [] [] (List.drop (IntKind.i64.wrap ((↑(nums d).length : Int) - 1)).toNat (List.take (nums d).length (nums d))) (List.drop (IntKind.i64.wrap ((↑(nums d).length : Int) - 1)).toNat (List.take (nums s).length (nums s))) k))))).snd))])), ([(.box [(.pv (.int .i64 k))])], [])) = r else (((.pv (.tup [(.agg [(.int .i64 (offC windC (caOf o [] [] (List.drop (IntKind.i64.wrap ((↑(nums d).length : Int) - 1)).toNat (List.take (nums d).length (nums d))) (List.drop (IntKind.i64.wrap ((↑(nums d).length : Int) - 1)).toNat (List.take (nums s).length (nums s))) k))), (.sl 1 ((dimC windC (caOf o [] [] (List.drop (IntKind.i64.wrap ((↑(nums d).length : Int) - 1)).toNat (List.take (nums d).length (nums d))) (List.drop (IntKind.i64.wrap ((↑(nums d).length : Int) - 1)).toNat (List.take (nums s).length (nums s))) k)).isEmpty) (nums (dimC windC (caOf o [] [] (List.drop (IntKind.i64.wrap ((↑(nums d).length : Int) - 1)).toNat (List.take (nums d).length (nums d))) (List.drop (IntKind.i64.wrap ((↑(nums d).length : Int) - 1)).toNat (List.take (nums s).length (nums s))) k)))), (.sl 1 ((strC windC (caOf o [] [] (List.drop (IntKind.i64.wrap ((↑(nums d).length : Int) - 1)).toNat (List.take (nums d).length (nums d))) (List.drop (IntKind.i64.wrap ((↑(nums d).length : Int) - 1)).toNat (List.take (nums s).length (nums s))) k)).isEmpty) (nums (strC windC (caOf o [] [] (List.drop (IntKind.i64.wrap ((↑(nums d).length : Int) - 1)).toNat (List.take (nums d).length (nums d))) (List.drop (IntKind.i64.wrap ((↑(nums d).length : Int) - 1)).toNat (List.take (nums s).length (nums s))) k))))]), (.int .i64 0)])), ([(.box [(.pv (.int .i64 k))])], [])) = r)))))))) : Gets T_zwind 1 (fun st => finF 1 st rs_zwind = some r) ic_zwind [] (st0O 63 [.pv (.agg [.int .i64 o, .sl 1 t (nums d), .sl 1 u (nums s)]), .pv (.int .i64 1), .fn 101 [] [.ptr 0 0]] [.box [.pv (.int .i64 k)]]) := Gets.wf (.req (.ask (.nil) (.lit (.lit (.ask (.nil) (.req (.req (.req (.req (.req (.req (.req (.lit (.ask (.nil) (.req (.lit (.ask (.nil) (.nil)))))))))))))))))) h (by kernel_rfl)
def ic_ztran : IC := (.seq (.reg [⟨(some 3), (.box 3 (.t 0)), 0, none⟩, ⟨(some 6), (.alloc (.agg [(.int .i64 0), (.sl 0 true []), (.sl 0 true [])])), 1, none⟩, ⟨(some 7), (.mv (.c (.int .i64 0))), 2, none⟩] none) (.seq (.seq (.reg [⟨(some 13), (.load true [(.int .i64), (.sl 1), (.sl 1)] (.t 3)), 0, none⟩, ⟨(some 14), (.call (.c (.fn 76)) [(.t 13)]), 0, none⟩, ⟨(some 15), (.un .not (.t 14)), 2, none⟩] none) (.cond (.t 15) (.seq (.reg [⟨(some 16), (.build [(.int .i64 0), (.sl 0 true []), (.sl 0 true [])] []), 0, none⟩, ⟨none, (.store 3 (.t 6) (.t 16)), 0, none⟩, ⟨(some 7), (.mv (.c (.int .i64 1))), 0, none⟩] none) .ret) .skip)) (.seq (.reg [⟨(some 17), (.faddr 1 (.t 3)), 0, none⟩, ⟨(some 18), (.load false [(.sl 1)] (.t 17)), 0, none⟩, ⟨(some 19), (.len 1 (.t 18)), 0, none⟩, ⟨(some 20), (.mv (.t 1)), 0, none⟩, ⟨(some 21), (.bin .num .sub (.t 19) (.t 20)), 0, none⟩, ⟨(some 8), (.mv (.t 21)), 0, none⟩] none) (.seq (.seq (.reg [⟨(some 22), (.mv (.t 8)), 0, none⟩, ⟨(some 23), (.bin .num .lss (.t 22) (.c (.int .i64 0))), 0, none⟩] none) (.cond (.t 23) (.seq (.reg [⟨(some 24), (.build [(.int .i64 0), (.sl 0 true []), (.sl 0 true [])] []), 0, none⟩, ⟨none, (.store 3 (.t 6) (.t 24)), 0, none⟩, ⟨(some 7), (.mv (.c (.int .i64 13))), 0, none⟩] none) .ret) .skip)) (.seq (.reg [⟨(some 25), (.faddr 0 (.t 3)), 0, none⟩, ⟨(some 26), (.load false [(.int .i64)] (.t 25)), 0, none⟩, ⟨(some 27), (.faddr 1 (.t 3)), 0, none⟩, ⟨(some 28), (.load false [(.sl 1)] (.t 27)), 0, none⟩, ⟨(some 29), (.mv (.t 8)), 0, none⟩, ⟨(some 30), (.slc 1 (.t 28) none (some (.t 29)) none), 0, none⟩, ⟨(some 31), (.call (.c (.fn 74)) [(.t 30)]), 0, none⟩, ⟨(some 32), (.faddr 2 (.t 3)), 2, none⟩, ⟨(some 33), (.load false [(.sl 1)] (.t 32)), 2, none⟩, ⟨(some 34), (.mv (.t 8)), 2, none⟩, ⟨(some 35), (.slc 1 (.t 33) none (some (.t 34)) none), 2, none⟩, ⟨(some 36), (.call (.c (.fn 74)) [(.t 35)]), 2, none⟩, ⟨(some 37), (.build [(.int .i64 0), (.sl 0 true []), (.sl 0 true [])] [(0, (1, (.t 26))), (1, (1, (.t 31))), (2, (1, (.t 36)))]), 4, none⟩, ⟨(some 9), (.alloc (.agg [(.int .i64 0), (.sl 0 true []), (.sl 0 true [])])), 4, none⟩, ⟨none, (.store 3 (.t 9) (.t 37)), 5, none⟩] (some [[], [0], [], [2], [], [3, 4, 2], [5, 3, 4, 2], [], [7], [], [8, 9, 7], [10, 6, 8, 9, 7, 5, 3, 4, 2], [1, 6, 11, 0, 5, 3, 4, 2, 10, 8, 9, 7], [], [13, 12, 11, 0, 1, 2, 3, 4, 5, 6, 7, 8, 9, 10]])) (.seq (.seq (.reg [⟨(some 38), (.mv (.t 2)), 0, none⟩, ⟨(some 39), (.faddr 1 (.t 3)), 0, none⟩, ⟨(some 40), (.load false [(.sl 1)] (.t 39)), 0, none⟩, ⟨(some 41), (.mv (.t 8)), 0, none⟩, ⟨(some 42), (.slc 1 (.t 40) (some (.t 41)) none none), 0, none⟩, ⟨(some 43), (.faddr 2 (.t 3)), 0, none⟩, ⟨(some 44), (.load false [(.sl 1)] (.t 43)), 0, none⟩, ⟨(some 45), (.mv (.t 8)), 0, none⟩, ⟨(some 46), (.slc 1 (.t 44) (some (.t 45)) none none), 0, none⟩, ⟨(some 47), (.call (.t 38) [(.t 9), (.t 42), (.t 46)]), 0, none⟩, ⟨(some 10), (.mv (.t 47)), 2, none⟩] (some [[], [], [1], [], [2, 3, 1], [], [5], [], [6, 7, 5], [0, 4, 8, 2, 3, 1, 6, 7, 5], [9, 0, 1, 2, 3, 4, 5, 6, 7, 8]])) (.seq (.reg [⟨(some 48), (.mv (.t 10)), 0, none⟩, ⟨(some 49), (.bin .num .neq (.t 48) (.c (.int .i64 0))), 0, none⟩] none) (.cond (.t 49) (.seq (.reg [⟨(some 50), (.build [(.int .i64 0), (.sl 0 true []), (.sl 0 true [])] []), 0, none⟩, ⟨(some 51), (.mv (.t 10)), 0, none⟩, ⟨none, (.store 3 (.t 6) (.t 50)), 0, none⟩, ⟨(some 7), (.mv (.t 51)), 0, none⟩] none) .ret) .skip))) (.seq (.seq (.reg [⟨(some 53), (.faddr 1 (.t 9)), 0, none⟩, ⟨(some 54), (.load false [(.sl 1)] (.t 53)), 0, none⟩, ⟨(some 55), (.call (.c (.fn 73)) [(.t 54)]), 0, none⟩, ⟨(some 52), (.mv (.t 55)), 2, none⟩, ⟨(some 56), (.extract (.t 52) 0), 2, none⟩, ⟨(some 57), (.extract (.t 52) 1), 2, none⟩, ⟨(some 11), (.mv (.t 56)), 2, none⟩, ⟨(some 12), (.mv (.t 57)), 2, none⟩] none) (.seq (.reg [⟨(some 58), (.mv (.t 12)), 0, none⟩, ⟨(some 59), (.bin .num .neq (.t 58) (.c (.int .i64 0))), 0, none⟩] none) (.cond (.t 59) (.seq (.reg [⟨(some 60), (.build [(.int .i64 0), (.sl 0 true []), (.sl 0 true [])] []), 0, none⟩, ⟨(some 61), (.mv (.t 12)), 0, none⟩, ⟨none, (.store 3 (.t 6) (.t 60)), 0, none⟩, ⟨(some 7), (.mv (.t 61)), 0, none⟩] none) .ret) .skip))) (.seq (.reg [⟨(some 62), (.load true [(.int .i64), (.sl 1), (.sl 1)] (.t 9)), 0, none⟩, ⟨none, (.store 3 (.t 6) (.t 62)), 0, none⟩, ⟨(some 7), (.mv (.c (.int .i64 0))), 0, none⟩] none) .ret))))))))
def rs_ztran : List IRes := [(.cell true 3 6), (.tmp 7)]
abbrev nt_ztran : Nat := 63
def T_ztran : Tab := tab [(76, .pure pre_v1 val_formed), (74, .own pre_copyz val_copyz), (73, .pure pre_size val_size), (90, .own (pre_c0z 2) (val_c0z tranC))]
theorem ztran_s {r : AV × List AObj × List AObj} (o : Int) (d s : List Int) (t u : Bool) (h : (pre_v1 [(.agg [(.int .i64 o), (.sl 1 t (nums d)), (.sl 1 u (nums s))])]) = true ∧ (if (!formB (PV.agg [PV.int .i64 o, PV.sl 1 t (nums d), PV.sl 1 u (nums s)]).vD (PV.agg [PV.int .i64 o, PV.sl 1 t (nums d), PV.sl 1 u (nums s)]).vS) = true then ((.pv (.tup [(.agg [(.int .i64 0), (.sl 0 true []), (.sl 0 true [])]), (.int .i64 1)])), ([], [])) = r else (if (decide (IntKind.i64.wrap ((↑(nums d).length : Int) - 2) < 0)) = true then ((.pv (.tup [(.agg [(.int .i64 0), (.sl 0 true []), (.sl 0 true [])]), (.int .i64 13)])), ([], [])) = r else ((true && decide (0 ≤ IntKind.i64.wrap ((↑(nums d).length : Int) - 2)) && ((nums d).isEmpty || 1 == 1) && decide (0 ≤ (IntKind.i64.wrap ((↑(nums d).length : Int) - 2)).toNat) && decide ((IntKind.i64.wrap ((↑(nums d).length : Int) - 2)).toNat ≤ (nums d).length)) = true ∧ (pre_copyz [(.pv (.sl 1 (t && decide ((IntKind.i64.wrap ((↑(nums d).length : Int) - 2)).toNat = (nums d).length)) (List.drop 0 (List.take (IntKind.i64.wrap ((↑(nums d).length : Int) - 2)).toNat (nums d)))))] []) = true ∧ (true && decide (0 ≤ IntKind.i64.wrap ((↑(nums d).length : Int) - 2)) && ((nums s).isEmpty || 1 == 1) && decide (0 ≤ (IntKind.i64.wrap ((↑(nums d).length : Int) - 2)).toNat) && decide ((IntKind.i64.wrap ((↑(nums d).length : Int) - 2)).toNat ≤ (nums s).length)) = true ∧ (pre_copyz [(.pv (.sl 1 (u && decide ((IntKind.i64.wrap ((↑(nums d).length : Int) - 2)).toNat = (nums s).length)) (List.drop 0 (List.take (IntKind.i64.wrap ((↑(nums d).length : Int) - 2)).toNat (nums s)))))] []) = true ∧ (decide (0 ≤ IntKind.i64.wrap ((↑(nums d).length : Int) - 2)) && true && ((nums d).isEmpty || 1 == 1) && decide ((IntKind.i64.wrap ((↑(nums d).length : Int) - 2)).toNat ≤ (nums d).length) && decide ((nums d).length ≤ (nums d).length)) = true ∧ (decide (0 ≤ IntKind.i64.wrap ((↑(nums d).length : Int) - 2)) && true && ((nums s).isEmpty || 1 == 1) && decide ((IntKind.i64.wrap ((↑(nums d).length : Int) - 2)).toNat ≤ (nums s).length) && decide ((nums s).length ≤ (nums s).length)) = true ∧ (pre_c0z 2 [(.ptr 0 0), (.pv (.sl 1 (t && decide ((nums d).length = (nums d).length)) (List.drop (IntKind.i64.wrap ((↑(nums d).length : Int) - 2)).toNat (List.take (nums d).length (nums d))))), (.pv (.sl 1 (u && decide ((nums s).length = (nums s).length)) (List.drop (IntKind.i64.wrap ((↑(nums d).length : Int) - 2)).toNat (List.take (nums s).length (nums s)))))] [(.box [(.pv (.int .i64 o)), (.pv (.sl 1 true [])), (.pv (.sl 1 true []))])]) = true ∧ (if ((sizeB (List.map PV.asInt (nums (dimC tranC (caOf o [] [] (List.drop (IntKind.i64.wrap ((↑(nums d).length : Int) - 2)).toNat (List.take (nums d).length (nums d))) (List.drop (IntKind.i64.wrap ((↑(nums d).length : Int) - 2)).toNat (List.take (nums s).length (nums s))) 0))))).snd != 0) = true then ((.pv (.tup [(.agg [(.int .i64 0), (.sl 0 true []), (.sl 0 true [])]), (.int .i64 ((sizeB (List.map PV.asInt (nums (dimC tranC (caOf o [] [] (List.drop (IntKind.i64.wrap ((↑(nums d).length : Int) - 2)).toNat (List.take (nums d).length (nums d))) (List.drop (IntKind.i64.wrap ((↑(nums d).length : Int) - 2)).toNat (List.take (nums s).length (nums s))) 0))))).snd))])), ([], [])) = r else (((.pv (.tup [(.agg [(.int .i64 (offC tranC (caOf o [] [] (List.drop (IntKind.i64.wrap ((↑(nums d).length : Int) - 2)).toNat (List.take (nums d).length (nums d))) (List.drop (IntKind.i64.wrap ((↑(nums d).length : Int) - 2)).toNat (List.take (nums s).length (nums s))) 0))), (.sl 1 false [(.int .i64 (n1 (caOf o [] [] (List.drop (IntKind.i64.wrap ((↑(nums d).length : Int) - 2)).toNat (List.take (nums d).length (nums d))) (List.drop (IntKind.i64.wrap ((↑(nums d).length : Int) - 2)).toNat (List.take (nums s).length (nums s))) 0))), (.int .i64 (n0 (caOf o [] [] (List.drop (IntKind.i64.wrap ((↑(nums d).length : Int) - 2)).toNat (List.take (nums d).length (nums d))) (List.drop (IntKind.i64.wrap ((↑(nums d).length : Int) - 2)).toNat (List.take (nums s).length (nums s))) 0)))]), (.sl 1 false [(.int .i64 (m1 (caOf o [] [] (List.drop (IntKind.i64.wrap ((↑(nums d).length : Int) - 2)).toNat (List.take (nums d).length (nums d))) (List.drop (IntKind.i64.wrap ((↑(nums d).length : Int) - 2)).toNat (List.take (nums s).length (nums s))) 0))), (.int .i64 (m0 (caOf o [] [] (List.drop (IntKind.i64.wrap ((↑(nums d).length : Int) - 2)).toNat (List.take (nums d).length (nums d))) (List.drop (IntKind.i64.wrap ((↑(nums d).length : Int) - 2)).toNat (List.take (nums s).length (nums s))) 0)))])]), (.int .i64 0)])), ([], [])) = r)))))) : Gets T_ztran 0 (fun st => finF 0 st rs_ztran = some r) ic_ztran [] (st0O 63 [.pv (.agg [.int .i64 o, .sl 1 t (nums d), .sl 1 u (nums s)]), .pv (.int .i64 2), .pv (.fn 90)] []) := Gets.wf (.req (.ask (.nil) (.lit (.lit (.ask (.nil) (.req (.req (.req (.req (.req (.req (.req (.lit (.lit (.lit (.lit (.ask (.nil) (.nil)))))))))))))))))) h (by kernel_rfl)
end Go.Pl

namespace Go.Pl
open Go.RowKit
set_option maxRecDepth 100000
def vrZ (r : VR) : PV := bif r.2 == 0 then .tup [.agg [.int .i64 r.1.1, slT r.1.2.1, slT r.1.2.2], .int .i64 r.2] else .tup [.agg [.int .i64 0, .sl 0 true [], .sl 0 true []], .int .i64 r.2]
theorem vrZ_sub {r : VR} (h : r.2 ≠ 0 → r.1 = (0, [], [])) : Sub (vrZ r) (vrP r) := by
  unfold vrZ
  cases e : r.2 == 0 with
  | true => exact .pair (.agg_cons (.refl _) (.agg_cons (slT_sub _) (.agg_cons (slT_sub _) .agg_nil))) (.refl _)
  | false =>
    have e' : r.2 ≠ 0 := by simpa using e
    have := h e'
    obtain ⟨⟨a, b, c⟩, x⟩ := r
    simp only [Prod.mk.injEq] at this
    obtain ⟨rfl, rfl, rfl⟩ := this
    exact .pair (.agg_cons (.refl _) (.agg_cons (.sl0 _ _ _) (.agg_cons (.sl0 _ _ _) .agg_nil))) (.refl _)
theorem pre_c1z_of {rk : Nat} {o k : Int} {ns ms : List Int} {t u : Bool} (h3 : ns.length = rk) (h4 : ms.length = rk) :
    pre_c1z rk [.ptr 0 0, .pv (.sl 1 t (nums ns)), .pv (.sl 1 u (nums ms)), .ptr 1 0] [.box [.pv (.int .i64 o), .pv (.sl 1 true []), .pv (.sl 1 true [])], .box [.pv (.int .i64 k)]] = true := by
  simp [pre_c1z, h3, h4]
theorem pre_c0z_of {rk : Nat} {o : Int} {ns ms : List Int} {t u : Bool} (h3 : ns.length = rk) (h4 : ms.length = rk) :
    pre_c0z rk [.ptr 0 0, .pv (.sl 1 t (nums ns)), .pv (.sl 1 u (nums ms))] [.box [.pv (.int .i64 o), .pv (.sl 1 true []), .pv (.sl 1 true [])]] = true := by
  simp [pre_c0z, h3, h4]
def pre_sz1 (g rk : Nat) : List AV → List AObj → Bool
  | [.pv p, .pv (.int .i64 r), .fn g' [] [.ptr 0 0]], [.box [.pv (.int .i64 _)]] => pre_view p && (r == rk && (g' == g && decide (p.vD.length = rk)))
  | _, _ => false
theorem st1_cases (g rk : Nat) : ∀ a o, pre_st1 g rk a o = true → pre_sn1 g rk a o = true ∨ pre_sz1 g rk a o = true := by
  intro a o h
  unfold pre_st1 at h
  split at h
  · rename_i p r g' k
    simp only [Bool.and_eq_true] at h
    by_cases e : p.vD.length = rk
    · exact .inr (by simp [pre_sz1, h, e])
    · exact .inl (by simp [pre_sn1, h, e])
  · cases h
def pre_sz0 (g rk : Nat) : List AV → List AObj → Bool
  | [.pv p, .pv (.int .i64 r), .pv (.fn g')], [] => pre_view p && (r == rk && (g' == g && decide (p.vD.length = rk)))
  | _, _ => false
theorem st0_cases (g rk : Nat) : ∀ a o, pre_st0 g rk a o = true → pre_sn0 g rk a o = true ∨ pre_sz0 g rk a o = true := by
  intro a o h
  unfold pre_st0 at h
  split at h
  · rename_i p r g'
    simp only [Bool.and_eq_true] at h
    by_cases e : p.vD.length = rk
    · exact .inr (by simp [pre_sz0, h, e])
    · exact .inl (by simp [pre_sn0, h, e])
  · cases h
theorem zwind_run : ∀ args os, pre_sz1 101 1 args os = true → ∃ p p' os' ext, Gets T_zwind os.length (fun st => finF os.length st rs_zwind = some (.pv p, os', ext)) ic_zwind [] (st0O nt_zwind args os) ∧ Sub p p' ∧ val_st1 windC 1 args os = (.pv p', os', ext) := by
  intro args os hp
  unfold pre_sz1 at hp
  split at hp
  · rename_i p r g' k
    simp only [Bool.and_eq_true, beq_iff_eq] at hp
    obtain ⟨hv, rfl, rfl, hne⟩ := hp
    obtain ⟨o, d, s, t, u, rfl, hd, hs⟩ := view_of hv
    simp only [vw_D, decide_eq_true_eq] at hne
    refine ⟨vrZ (stepB windC 1 o d s k), _, _, _, zwind_s (r := (.pv (vrZ (stepB windC 1 o d s k)), [.box [.pv (.int .i64 k)]], [])) o d s t u k ?_, vrZ_sub (stepB_err _ _ _ _ _ _), by simp only [val_st1, vw_D, vw_S, vw_O]⟩
    refine ⟨by simpa [pre_v1] using hv, ?_⟩
    simp only [vw_D, vw_S]
    cases hf : formB d s with
    | false => simp [stepB, hf, vrZ]
    | true =>
      obtain ⟨h6, hl⟩ := form_ok hf
      rw [if_neg (by simp)]
      by_cases hr : d.length < 1
      · rw [if_pos (by simp only [nums_length, decide_eq_true_eq]; rw [wrap64 (by omega) (by omega)]; omega)]
        simp [stepB, hf, vrZ, hr]
      · have hK := dm_len h6 hr
        simp only [nums_length, List.drop_zero, Int.cast_ofNat_Int] at hK ⊢
        have hK' : (IntKind.i64.wrap ((d.length : Int) - (1 : Int))) = ((d.length - 1 : Nat) : Int) := by simpa using hK
        simp only [hK', Int.toNat_natCast, nums_take, nums_drop, List.take_length, caOf, asInt_nums, addL, ← nums_append, nums_length, PV.ns]
        rw [if_neg (by simp)]
        have h0 : d.length - 1 = 0 := by omega
        have ht : List.take d.length s = s := by rw [← hl]; exact List.take_length
        rw [h0]
        simp only [List.drop_zero, List.take_zero, ht, nums_nil]
        refine ⟨by first | rfl | simp, by first | rfl | simp [pre_copyz], by first | rfl | simp, by first | rfl | simp [pre_copyz], by simp, by simp, ?_, ?_⟩
        · exact pre_c1z_of (by omega) (by omega)
        · have hc : (⟨o, [], [], d, s, k⟩ : CA) = caT 1 o d s k := by simp [caT, h0]
          simp only [List.map_nil, hc]
          cases he : errC windC (caT 1 o d s k) != 0 with
          | true =>
            have he' : errC windC (caT 1 o d s k) ≠ 0 := by simpa using he
            simp [stepB, h0, hf, vrZ, slT, hr, he, beq_eq_false_iff_ne.2 he']
          | false =>
            have he' : errC windC (caT 1 o d s k) = 0 := by simpa using he
            rw [if_neg (by simp)]
            refine ⟨by simp [pre_size], ?_⟩
            cases hz : (sizeB (dimC windC (caT 1 o d s k))).2 != 0 with
            | true =>
              have hz' : (sizeB (dimC windC (caT 1 o d s k))).2 ≠ 0 := by simpa using hz
              simp [stepB, h0, hf, vrZ, slT, hr, he', hz, beq_eq_false_iff_ne.2 hz']
            | false =>
              have hz' : (sizeB (dimC windC (caT 1 o d s k))).2 = 0 := by simpa using hz
              simp [stepB, h0, hf, vrZ, slT, vrP, hr, he', hz, nums_append, nums_take, nums_drop]
  · cases hp
theorem ztran_run : ∀ args os, pre_sz0 90 2 args os = true → ∃ p p' os' ext, Gets T_ztran os.length (fun st => finF os.length st rs_ztran = some (.pv p, os', ext)) ic_ztran [] (st0O nt_ztran args os) ∧ Sub p p' ∧ val_st0 tranC 2 args os = (.pv p', os', ext) := by
  intro args os hp
  unfold pre_sz0 at hp
  split at hp
  · rename_i p r g'
    simp only [Bool.and_eq_true, beq_iff_eq] at hp
    obtain ⟨hv, rfl, rfl, hne⟩ := hp
    obtain ⟨o, d, s, t, u, rfl, hd, hs⟩ := view_of hv
    simp only [vw_D, decide_eq_true_eq] at hne
    refine ⟨vrZ (stepB tranC 2 o d s 0), _, _, _, ztran_s (r := (.pv (vrZ (stepB tranC 2 o d s 0)), [], [])) o d s t u ?_, vrZ_sub (stepB_err _ _ _ _ _ _), by simp only [val_st0, vw_D, vw_S, vw_O]⟩
    refine ⟨by simpa [pre_v1] using hv, ?_⟩
    simp only [vw_D, vw_S]
    cases hf : formB d s with
    | false => simp [stepB, hf, vrZ]
    | true =>
      obtain ⟨h6, hl⟩ := form_ok hf
      rw [if_neg (by simp)]
      by_cases hr : d.length < 2
      · rw [if_pos (by simp only [nums_length, decide_eq_true_eq]; rw [wrap64 (by omega) (by omega)]; omega)]
        simp [stepB, hf, vrZ, hr]
      · have hK := dm_len h6 hr
        simp only [nums_length, List.drop_zero, Int.cast_ofNat_Int] at hK ⊢
        have hK' : (IntKind.i64.wrap ((d.length : Int) - (2 : Int))) = ((d.length - 2 : Nat) : Int) := by simpa using hK
        simp only [hK', Int.toNat_natCast, nums_take, nums_drop, List.take_length, caOf, asInt_nums, addL, ← nums_append, nums_length, PV.ns]
        rw [if_neg (by simp)]
        have h0 : d.length - 2 = 0 := by omega
        have ht : List.take d.length s = s := by rw [← hl]; exact List.take_length
        rw [h0]
        simp only [List.drop_zero, List.take_zero, ht, nums_nil]
        refine ⟨by first | rfl | simp, by first | rfl | simp [pre_copyz], by first | rfl | simp, by first | rfl | simp [pre_copyz], by simp, by simp, ?_, ?_⟩
        · exact pre_c0z_of (by omega) (by omega)
        · have hc : (⟨o, [], [], d, s, 0⟩ : CA) = caT 2 o d s 0 := by simp [caT, h0]
          simp only [List.map_nil, hc]
          have he' : errC tranC (caT 2 o d s 0) = 0 := rfl
          cases hz : (sizeB (dimC tranC (caT 2 o d s 0))).2 != 0 with
          | true =>
            have hz' : (sizeB (dimC tranC (caT 2 o d s 0))).2 ≠ 0 := by simpa using hz
            simp [stepB, h0, hf, vrZ, slT, hr, he', hz, beq_eq_false_iff_ne.2 hz']
          | false =>
            have hz' : (sizeB (dimC tranC (caT 2 o d s 0))).2 = 0 := by simpa using hz
            have hd1 : slT (dimC tranC (caT 2 o d s 0)) = .sl 1 false (nums (dimC tranC (caT 2 o d s 0))) := rfl
            have hs1 : slT (strC tranC (caT 2 o d s 0)) = .sl 1 false (nums (strC tranC (caT 2 o d s 0))) := rfl
            simp only [stepB, h0, hf, hr, he', hz, List.take_zero, List.nil_append, cond_true, cond_false, vrZ, decide_false, hd1, hs1]
            first | rfl | simp [hz, hz', hd1, hs1, he'] <;> rfl
  · cases hp
end Go.Pl

namespace Go.Pl
open Go.RowKit
set_option maxRecDepth 100000
def ic_wind : IC := (.seq (.reg [⟨(some 2), (.box 3 (.t 0)), 0, none⟩, ⟨(some 3), (.box 1 (.t 1)), 1, none⟩, ⟨(some 4), (.alloc (.agg [(.int .i64 0), (.sl 0 true []), (.sl 0 true [])])), 2, none⟩, ⟨(some 5), (.mv (.c (.int .i64 0))), 3, none⟩] none) (.seq (.reg [⟨(some 6), (.load true [(.int .i64), (.sl 1), (.sl 1)] (.t 2)), 0, none⟩, ⟨(some 7), (.mkfn 101 [] [(.t 3)]), 0, none⟩, ⟨(some 8), (.call (.c (.fn 87)) [(.t 6), (.c (.int .i64 1)), (.t 7)]), 0, none⟩, ⟨(some 9), (.extract (.t 8) 0), 2, none⟩, ⟨(some 10), (.extract (.t 8) 1), 2, none⟩, ⟨none, (.store 3 (.t 4) (.t 9)), 2, none⟩, ⟨(some 5), (.mv (.t 10)), 2, none⟩] none) .ret))
def rs_wind : List IRes := [(.cell true 3 4), (.tmp 5)]
abbrev nt_wind : Nat := 11
def T_wind : Tab := tab [(87, .own (pre_st1 101 1) (val_st1 windC 1))]
theorem wind_s {r : PV} (o : Int) (d s : List Int) (t u : Bool) (k : Int) (h : (pre_st1 101 1 [(.pv (.agg [(.int .i64 o), (.sl 1 t (nums d)), (.sl 1 u (nums s))])), (.pv (.int .i64 1)), (.fn 101 [] [(.ptr 0 0)])] [(.box [(.pv (.int .i64 k))])]) = true ∧ ((.tup [(.agg [(.int .i64 ((stepB windC 1 (PV.agg [PV.int .i64 o, PV.sl 1 t (nums d), PV.sl 1 u (nums s)]).vO (PV.agg [PV.int .i64 o, PV.sl 1 t (nums d), PV.sl 1 u (nums s)]).vD (PV.agg [PV.int .i64 o, PV.sl 1 t (nums d), PV.sl 1 u (nums s)]).vS k).fst.fst)), (.sl 1 false (nums (stepB windC 1 (PV.agg [PV.int .i64 o, PV.sl 1 t (nums d), PV.sl 1 u (nums s)]).vO (PV.agg [PV.int .i64 o, PV.sl 1 t (nums d), PV.sl 1 u (nums s)]).vD (PV.agg [PV.int .i64 o, PV.sl 1 t (nums d), PV.sl 1 u (nums s)]).vS k).fst.snd.fst)), (.sl 1 false (nums (stepB windC 1 (PV.agg [PV.int .i64 o, PV.sl 1 t (nums d), PV.sl 1 u (nums s)]).vO (PV.agg [PV.int .i64 o, PV.sl 1 t (nums d), PV.sl 1 u (nums s)]).vD (PV.agg [PV.int .i64 o, PV.sl 1 t (nums d), PV.sl 1 u (nums s)]).vS k).fst.snd.snd))]), (.int .i64 ((stepB windC 1 (PV.agg [PV.int .i64 o, PV.sl 1 t (nums d), PV.sl 1 u (nums s)]).vO (PV.agg [PV.int .i64 o, PV.sl 1 t (nums d), PV.sl 1 u (nums s)]).vD (PV.agg [PV.int .i64 o, PV.sl 1 t (nums d), PV.sl 1 u (nums s)]).vS k).snd))]) = r)) : Gets T_wind 0 (fun st => fin st rs_wind = some r) ic_wind [] (st0 11 [(.agg [.int .i64 o, .sl 1 t (nums d), .sl 1 u (nums s)]), .int .i64 k]) := Gets.w (.req (.nil)) h (by kernel_rfl)
def ic_tran : IC := (.seq (.reg [⟨(some 1), (.box 3 (.t 0)), 0, none⟩, ⟨(some 2), (.alloc (.agg [(.int .i64 0), (.sl 0 true []), (.sl 0 true [])])), 1, none⟩, ⟨(some 3), (.mv (.c (.int .i64 0))), 2, none⟩] none) (.seq (.reg [⟨(some 4), (.load true [(.int .i64), (.sl 1), (.sl 1)] (.t 1)), 0, none⟩, ⟨(some 5), (.call (.c (.fn 87)) [(.t 4), (.c (.int .i64 2)), (.c (.fn 90))]), 0, none⟩, ⟨(some 6), (.extract (.t 5) 0), 2, none⟩, ⟨(some 7), (.extract (.t 5) 1), 2, none⟩, ⟨none, (.store 3 (.t 2) (.t 6)), 2, none⟩, ⟨(some 3), (.mv (.t 7)), 2, none⟩] none) .ret))
def rs_tran : List IRes := [(.cell true 3 2), (.tmp 3)]
abbrev nt_tran : Nat := 8
def T_tran : Tab := tab [(87, .own (pre_st0 90 2) (val_st0 tranC 2))]
theorem tran_s {r : PV} (o : Int) (d s : List Int) (t u : Bool) (h : (pre_st0 90 2 [(.pv (.agg [(.int .i64 o), (.sl 1 t (nums d)), (.sl 1 u (nums s))])), (.pv (.int .i64 2)), (.pv (.fn 90))] []) = true ∧ ((.tup [(.agg [(.int .i64 ((stepB tranC 2 (PV.agg [PV.int .i64 o, PV.sl 1 t (nums d), PV.sl 1 u (nums s)]).vO (PV.agg [PV.int .i64 o, PV.sl 1 t (nums d), PV.sl 1 u (nums s)]).vD (PV.agg [PV.int .i64 o, PV.sl 1 t (nums d), PV.sl 1 u (nums s)]).vS 0).fst.fst)), (.sl 1 false (nums (stepB tranC 2 (PV.agg [PV.int .i64 o, PV.sl 1 t (nums d), PV.sl 1 u (nums s)]).vO (PV.agg [PV.int .i64 o, PV.sl 1 t (nums d), PV.sl 1 u (nums s)]).vD (PV.agg [PV.int .i64 o, PV.sl 1 t (nums d), PV.sl 1 u (nums s)]).vS 0).fst.snd.fst)), (.sl 1 false (nums (stepB tranC 2 (PV.agg [PV.int .i64 o, PV.sl 1 t (nums d), PV.sl 1 u (nums s)]).vO (PV.agg [PV.int .i64 o, PV.sl 1 t (nums d), PV.sl 1 u (nums s)]).vD (PV.agg [PV.int .i64 o, PV.sl 1 t (nums d), PV.sl 1 u (nums s)]).vS 0).fst.snd.snd))]), (.int .i64 ((stepB tranC 2 (PV.agg [PV.int .i64 o, PV.sl 1 t (nums d), PV.sl 1 u (nums s)]).vO (PV.agg [PV.int .i64 o, PV.sl 1 t (nums d), PV.sl 1 u (nums s)]).vD (PV.agg [PV.int .i64 o, PV.sl 1 t (nums d), PV.sl 1 u (nums s)]).vS 0).snd))]) = r)) : Gets T_tran 0 (fun st => fin st rs_tran = some r) ic_tran [] (st0 8 [(.agg [.int .i64 o, .sl 1 t (nums d), .sl 1 u (nums s)])]) := Gets.w (.req (.nil)) h (by kernel_rfl)
end Go.Pl

namespace Go.Pl
open Go.RowKit
set_option maxRecDepth 100000
def val_sv1 (f : Chg) (rk : Nat) : List PV → PV
  | [p, .int _ k] => vrP (stepB f rk p.vO p.vD p.vS k)
  | _ => .nilp
def pre_sv1 : List PV → Bool
  | [p, .int .i64 _] => pre_view p
  | _ => false
def val_sv0 (f : Chg) (rk : Nat) : List PV → PV
  | [p] => vrP (stepB f rk p.vO p.vD p.vS 0)
  | _ => .nilp
theorem wind_run : ∀ ps, pre_sv1 ps = true → Gets T_wind 0 (fun st => fin st rs_wind = some (val_sv1 windC 1 ps)) ic_wind [] (st0 nt_wind ps) := by
  intro ps hp
  unfold pre_sv1 at hp
  split at hp
  · rename_i p k
    obtain ⟨o, d, s, t, u, rfl, hd, hs⟩ := view_of hp
    exact wind_s o d s t u k ⟨by simpa [pre_st1] using hp, rfl⟩
  · cases hp
theorem tran_run : ∀ ps, pre_v1 ps = true → Gets T_tran 0 (fun st => fin st rs_tran = some (val_sv0 tranC 2 ps)) ic_tran [] (st0 nt_tran ps) := by
  intro ps hp
  unfold pre_v1 at hp
  split at hp
  · rename_i p
    obtain ⟨o, d, s, t, u, rfl, hd, hs⟩ := view_of hp
    exact tran_s o d s t u ⟨by simpa [pre_st0] using hp, rfl⟩
  · cases hp
end Go.Pl

namespace Go.Pl
open Go.RowKit
set_option maxRecDepth 100000
end Go.Pl

namespace Go.Pl
open Go.RowKit
set_option maxRecDepth 100000
def PV.xK (p : PV) : Int := (p.fld 1).asInt
def errP (e : Int) : PV := .tup [.agg [.int .i64 0, .sl 0 true [], .sl 0 true []], .int .i64 e]
theorem errP_sub (e : Int) : Sub (errP e) (vrP ((0, [], []), e)) := .pair (.agg_cons (.refl _) (.agg_cons (.sl0 _ _ _) (.agg_cons (.sl0 _ _ _) .agg_nil))) (.refl _)
end Go.Pl

namespace Go.Pl
open Go.RowKit
def oset (o : Int) (d s : List Int) (n : Nat) : List Int := (List.range n).map fun (k : Nat) => (atB o d s (idxR d (k : Int)).2).1
theorem oset_length (o : Int) (d s : List Int) (n : Nat) : (oset o d s n).length = n := by simp [oset]
theorem oset_succ (o : Int) (d s : List Int) (n : Nat) : oset o d s (n + 1) = oset o d s n ++ [(atB o d s (idxR d (n : Int)).2).1] := by simp [oset, List.range_succ]
theorem oset_zero (o : Int) (d s : List Int) : oset o d s 0 = [] := rfl
def offsB (o : Int) (d s : List Int) : List Int := bif formB d s then oset o d s (sizeB d).1.toNat else []
def val_offs : List PV → PV
  | [p] => .sl 1 false (nums (offsB p.vO p.vD p.vS))
  | _ => .nilp
theorem size_nonneg {d : List Int} : 0 ≤ (sizeB d).1 := by
  unfold sizeB
  by_cases h6 : 6 < d.length
  · simp [h6]
  · cases ha : d.all dimB with
    | false => simp [h6]
    | true =>
      cases hz : d.any (· == 0) with
      | true => simp [h6]
      | false =>
        have key : ∀ (l : List Int) (p n : Int), l.all dimB = true → 0 ≤ p → prodB p l = some n → 0 ≤ n := by
          intro l
          induction l with
          | nil => intro p n _ hp h; simp [prodB] at h; omega
          | cons x l ih =>
            intro p n hl hp h
            simp only [List.all_cons, Bool.and_eq_true] at hl
            simp only [prodB] at h
            by_cases hb : 4096 < p * x
            · simp [hb] at h
            · simp only [hb, decide_false, cond_false] at h
              refine ih _ _ hl.2 (Int.mul_nonneg hp ?_) h
              have := hl.1
              simp only [dimB, Bool.and_eq_true, decide_eq_true_eq] at this
              exact this.1
        cases hp : prodB 1 d with
        | none => simp [h6]
        | some n => have := key d 1 n ha (by omega) hp; simp [h6]; exact this
theorem size_le {d : List Int} : (sizeB d).1 ≤ 4096 := by
  unfold sizeB
  by_cases h6 : 6 < d.length
  · simp [h6]
  · cases ha : d.all dimB with
    | false => simp [h6]
    | true =>
      cases hz : d.any (· == 0) with
      | true => simp [h6]
      | false =>
        have key : ∀ (l : List Int) (p n : Int), p ≤ 4096 → prodB p l = some n → n ≤ 4096 := by
          intro l
          induction l with
          | nil => intro p n hp h; simp [prodB] at h; omega
          | cons x l ih =>
            intro p n hp h
            simp only [prodB] at h
            by_cases hb : 4096 < p * x
            · simp [hb] at h
            · simp only [hb, decide_false, cond_false] at h
              exact ih _ _ (by omega) h
        cases hp : prodB 1 d with
        | none => simp [h6]
        | some n => have := key d 1 n (by omega) hp; simp [h6]; exact this
end Go.Pl

namespace Go.Pl
open Go.RowKit
set_option maxRecDepth 100000
def ic_roffs : IC := (.seq (.reg [⟨(some 1), (.box 3 (.t 0)), 0, none⟩, ⟨(some 2), (.mv (.c (.sl 0 true []))), 1, none⟩] none) (.seq (.reg [⟨(some 3), (.mv (.c (.sl 0 true []))), 0, none⟩] none) (.seq (.seq (.reg [⟨(some 11), (.load true [(.int .i64), (.sl 1), (.sl 1)] (.t 1)), 0, none⟩, ⟨(some 12), (.call (.c (.fn 78)) [(.t 11)]), 0, none⟩, ⟨(some 13), (.bin .num .neq (.t 12) (.c (.int .i64 0))), 2, none⟩] none) (.cond (.t 13) (.seq (.reg [⟨(some 2), (.mv (.c (.sl 0 true []))), 0, none⟩] none) .ret) .skip)) (.seq (.reg [⟨(some 15), (.faddr 1 (.t 1)), 0, none⟩, ⟨(some 16), (.load false [(.sl 1)] (.t 15)), 0, none⟩, ⟨(some 17), (.call (.c (.fn 35)) [(.t 16)]), 0, none⟩, ⟨(some 14), (.mv (.t 17)), 2, none⟩, ⟨(some 18), (.extract (.t 14) 0), 2, none⟩, ⟨(some 19), (.extract (.t 14) 1), 2, none⟩, ⟨(some 4), (.mv (.t 18)), 2, none⟩, ⟨(some 5), (.mv (.t 19)), 2, none⟩] none) (.seq (.seq (.reg [⟨(some 6), (.mv (.c (.int .i64 0))), 0, none⟩] none) (.block 0 (.loop [6, 4, 1, 3] (.seq (.seq (.reg [⟨(some 20), (.mv (.t 6)), 0, none⟩, ⟨(some 21), (.mv (.t 4)), 0, none⟩, ⟨(some 22), (.bin .num .lss (.t 20) (.t 21)), 0, none⟩] none) (.cond (.t 22) .skip (.exit 0))) (.seq (.block 1 (.seq (.reg [⟨(some 26), (.faddr 1 (.t 1)), 0, none⟩, ⟨(some 27), (.load false [(.sl 1)] (.t 26)), 0, none⟩, ⟨(some 28), (.mv (.t 6)), 0, none⟩, ⟨(some 29), (.call (.c (.fn 82)) [(.t 27), (.t 28)]), 0, none⟩, ⟨(some 25), (.mv (.t 29)), 2, none⟩, ⟨(some 30), (.extract (.t 25) 0), 2, none⟩, ⟨(some 31), (.extract (.t 25) 1), 2, none⟩, ⟨(some 7), (.mv (.t 30)), 2, none⟩, ⟨(some 8), (.mv (.t 31)), 2, none⟩] none) (.seq (.reg [⟨(some 33), (.load true [(.int .i64), (.sl 1), (.sl 1)] (.t 1)), 0, none⟩, ⟨(some 34), (.mv (.t 7)), 0, none⟩, ⟨(some 35), (.call (.c (.fn 25)) [(.t 33), (.t 34)]), 0, none⟩, ⟨(some 32), (.mv (.t 35)), 2, none⟩, ⟨(some 36), (.extract (.t 32) 0), 2, none⟩, ⟨(some 37), (.extract (.t 32) 1), 2, none⟩, ⟨(some 9), (.mv (.t 36)), 2, none⟩, ⟨(some 10), (.mv (.t 37)), 2, none⟩] none) (.reg [⟨(some 38), (.mv (.t 3)), 0, none⟩, ⟨(some 39), (.mv (.t 9)), 0, none⟩, ⟨(some 40), (.bslice 3 1 1 (.int .i64 0) [(0, (.t 39))]), 0, none⟩, ⟨(some 41), (.append 3 1 8 (.t 38) (.t 40)), 1, none⟩, ⟨(some 3), (.mv (.t 41)), 2, none⟩] none)))) (.reg [⟨(some 23), (.mv (.t 6)), 0, none⟩, ⟨(some 24), (.bin .num .add (.t 23) (.c (.int .i64 1))), 0, none⟩, ⟨(some 6), (.mv (.t 24)), 0, none⟩] none)))))) (.seq (.reg [⟨(some 42), (.mv (.t 3)), 0, none⟩, ⟨(some 2), (.mv (.t 42)), 0, none⟩] none) .ret))))))
def rs_roffs : List IRes := [(.tmp 2)]
abbrev nt_roffs : Nat := 43
def T_roffs : Tab := tab [(78, .pure pre_v1 val_form), (35, .pure pre_size val_size), (82, .pure pre_idx val_idx), (25, .pure pre_at val_at)]
theorem roffs_s {r : PV} (o : Int) (d s : List Int) (t u : Bool) (h : (pre_v1 [(.agg [(.int .i64 o), (.sl 1 t (nums d)), (.sl 1 u (nums s))])]) = true ∧ (if ((bif formB (PV.agg [PV.int .i64 o, PV.sl 1 t (nums d), PV.sl 1 u (nums s)]).vD (PV.agg [PV.int .i64 o, PV.sl 1 t (nums d), PV.sl 1 u (nums s)]).vS then (0 : Int) else 1) != 0) = true then (.sl 0 true []) = r else ((pre_size [(.sl 1 t (nums d))]) = true ∧ (At T_roffs 0 (fun st => fin st rs_roffs = some r) ic_roffs 0 43 [(1, (.ptr 0 0)), (3, (.pv (.sl 0 true []))), (4, (.pv (.int .i64 ((sizeB (List.map PV.asInt (nums d))).fst)))), (6, (.pv (.int .i64 0)))] [(.obj (.box [(.pv (.int .i64 o)), (.pv (.sl 1 t (nums d))), (.pv (.sl 1 u (nums s)))]))])))) : Gets T_roffs 0 (fun st => fin st rs_roffs = some r) ic_roffs [] (st0 43 [(.agg [.int .i64 o, .sl 1 t (nums d), .sl 1 u (nums s)])]) := Gets.w (.req (.lit (.ask (.nil) (.req (.nil))))) h (by kernel_rfl)
theorem roffs_h0a {r : PV} (o : Int) (d s : List Int) (t u : Bool) (n i : Int) (h : if (decide (i < n)) = true then (pre_idx [(.sl 1 t (nums d)), (.int .i64 i)]) = true ∧ (pre_at [(.agg [(.int .i64 o), (.sl 1 t (nums d)), (.sl 1 u (nums s))]), bif idxE (PV.sl 1 t (nums d)).ns (PV.int .i64 i).asInt != 0 then PV.sl 0 true [] else PV.sl 1 false (nums (idxR (PV.sl 1 t (nums d)).ns (PV.int .i64 i).asInt).snd)]) = true ∧ (At T_roffs 0 (fun st => fin st rs_roffs = some r) ic_roffs 0 43 [(1, (.ptr 0 0)), (3, (.row 1 1 0 1)), (4, (.pv (.int .i64 n))), (6, (.pv (.int .i64 (IntKind.i64.wrap (i + 1)))))] [(.obj (.box [(.pv (.int .i64 o)), (.pv (.sl 1 t (nums d))), (.pv (.sl 1 u (nums s)))])), (.obj (.row false 3 1 [(.int .i64 ((atB (PV.agg [PV.int .i64 o, PV.sl 1 t (nums d), PV.sl 1 u (nums s)]).vO (PV.agg [PV.int .i64 o, PV.sl 1 t (nums d), PV.sl 1 u (nums s)]).vD (PV.agg [PV.int .i64 o, PV.sl 1 t (nums d), PV.sl 1 u (nums s)]).vS (bif idxE (PV.sl 1 t (nums d)).ns (PV.int .i64 i).asInt != 0 then PV.sl 0 true [] else PV.sl 1 false (nums (idxR (PV.sl 1 t (nums d)).ns (PV.int .i64 i).asInt).snd)).ns).fst))]))]) else ((.sl 0 true []) = r)) : At T_roffs 0 (fun st => fin st rs_roffs = some r) ic_roffs 0 43 [(1, (.ptr 0 0)), (3, (.pv (.sl 0 true []))), (4, .pv (.int .i64 n)), (6, (.pv (.int .i64 i)))] [(.obj (.box [(.pv (.int .i64 o)), (.pv (.sl 1 t (nums d))), (.pv (.sl 1 u (nums s)))]))] := At.w (.lit (.ask (.req (.req (.lit (.lit (.lit (.lit (.lit (.lit (.nil))))))))) (.nil))) h (by kernel_rfl)
theorem roffs_h0b {r : PV} (o : Int) (d s : List Int) (t u : Bool) (n i : Int) (xs : List Int) (h : if (decide (i < n)) = true then (pre_idx [(.sl 1 t (nums d)), (.int .i64 i)]) = true ∧ (pre_at [(.agg [(.int .i64 o), (.sl 1 t (nums d)), (.sl 1 u (nums s))]), bif idxE (PV.sl 1 t (nums d)).ns (PV.int .i64 i).asInt != 0 then PV.sl 0 true [] else PV.sl 1 false (nums (idxR (PV.sl 1 t (nums d)).ns (PV.int .i64 i).asInt).snd)]) = true ∧ ((nums xs).length == xs.length && xs.length == xs.length && decide ((xs.length + (List.drop 0 (List.take 1 [PV.int .i64 (atB (PV.agg [PV.int .i64 o, PV.sl 1 t (nums d), PV.sl 1 u (nums s)]).vO (PV.agg [PV.int .i64 o, PV.sl 1 t (nums d), PV.sl 1 u (nums s)]).vD (PV.agg [PV.int .i64 o, PV.sl 1 t (nums d), PV.sl 1 u (nums s)]).vS (bif idxE (PV.sl 1 t (nums d)).ns (PV.int .i64 i).asInt != 0 then PV.sl 0 true [] else PV.sl 1 false (nums (idxR (PV.sl 1 t (nums d)).ns (PV.int .i64 i).asInt).snd)).ns).fst])).length) * 8 ≤ 1099511627776) && decide (xs.length + (List.drop 0 (List.take 1 [PV.int .i64 (atB (PV.agg [PV.int .i64 o, PV.sl 1 t (nums d), PV.sl 1 u (nums s)]).vO (PV.agg [PV.int .i64 o, PV.sl 1 t (nums d), PV.sl 1 u (nums s)]).vD (PV.agg [PV.int .i64 o, PV.sl 1 t (nums d), PV.sl 1 u (nums s)]).vS (bif idxE (PV.sl 1 t (nums d)).ns (PV.int .i64 i).asInt != 0 then PV.sl 0 true [] else PV.sl 1 false (nums (idxR (PV.sl 1 t (nums d)).ns (PV.int .i64 i).asInt).snd)).ns).fst])).length ≤ 1099511627776)) = true ∧ (At T_roffs 0 (fun st => fin st rs_roffs = some r) ic_roffs 0 43 [(1, (.ptr 0 0)), (3, (.row 1 (xs.length + (List.drop 0 (List.take 1 [PV.int .i64 (atB (PV.agg [PV.int .i64 o, PV.sl 1 t (nums d), PV.sl 1 u (nums s)]).vO (PV.agg [PV.int .i64 o, PV.sl 1 t (nums d), PV.sl 1 u (nums s)]).vD (PV.agg [PV.int .i64 o, PV.sl 1 t (nums d), PV.sl 1 u (nums s)]).vS (bif idxE (PV.sl 1 t (nums d)).ns (PV.int .i64 i).asInt != 0 then PV.sl 0 true [] else PV.sl 1 false (nums (idxR (PV.sl 1 t (nums d)).ns (PV.int .i64 i).asInt).snd)).ns).fst])).length) 0 (xs.length + (List.drop 0 (List.take 1 [PV.int .i64 (atB (PV.agg [PV.int .i64 o, PV.sl 1 t (nums d), PV.sl 1 u (nums s)]).vO (PV.agg [PV.int .i64 o, PV.sl 1 t (nums d), PV.sl 1 u (nums s)]).vD (PV.agg [PV.int .i64 o, PV.sl 1 t (nums d), PV.sl 1 u (nums s)]).vS (bif idxE (PV.sl 1 t (nums d)).ns (PV.int .i64 i).asInt != 0 then PV.sl 0 true [] else PV.sl 1 false (nums (idxR (PV.sl 1 t (nums d)).ns (PV.int .i64 i).asInt).snd)).ns).fst])).length))), (4, (.pv (.int .i64 n))), (6, (.pv (.int .i64 (IntKind.i64.wrap (i + 1)))))] [(.obj (.box [(.pv (.int .i64 o)), (.pv (.sl 1 t (nums d))), (.pv (.sl 1 u (nums s)))])), (.obj (.row false 3 1 (nums xs ++ List.drop 0 (List.take 1 [PV.int .i64 (atB (PV.agg [PV.int .i64 o, PV.sl 1 t (nums d), PV.sl 1 u (nums s)]).vO (PV.agg [PV.int .i64 o, PV.sl 1 t (nums d), PV.sl 1 u (nums s)]).vD (PV.agg [PV.int .i64 o, PV.sl 1 t (nums d), PV.sl 1 u (nums s)]).vS (bif idxE (PV.sl 1 t (nums d)).ns (PV.int .i64 i).asInt != 0 then PV.sl 0 true [] else PV.sl 1 false (nums (idxR (PV.sl 1 t (nums d)).ns (PV.int .i64 i).asInt).snd)).ns).fst]))))]) else (((nums xs).length == xs.length) = true ∧ ((.sl 1 false (List.drop 0 (List.take xs.length (nums xs)))) = r))) : At T_roffs 0 (fun st => fin st rs_roffs = some r) ic_roffs 0 43 [(1, (.ptr 0 0)), (3, .row 1 xs.length 0 xs.length), (4, .pv (.int .i64 n)), (6, (.pv (.int .i64 i)))] [(.obj (.box [(.pv (.int .i64 o)), (.pv (.sl 1 t (nums d))), (.pv (.sl 1 u (nums s)))])), (.obj (.row false 3 1 (nums xs)))] := At.w (.lit (.ask (.req (.req (.lit (.lit (.req (.lit (.nil))))))) (.req (.nil)))) h (by kernel_rfl)
end Go.Pl

namespace Go.Pl
open Go.RowKit
theorem idxE_lt {d s : List Int} (hf : formB d s = true) {k : Int} (h0 : 0 ≤ k) (h1 : k < (sizeB d).1) : idxE d k = 0 := by
  have hz : (sizeB d).2 = 0 := by simp only [formB, Bool.and_eq_true, beq_iff_eq] at hf; exact hf.1
  simp [idxE, hz, Int.not_lt.2 h0, Int.not_le.2 h1]
theorem roffs_loop (o : Int) (d s : List Int) (t u : Bool) (hf : formB d s = true) (N : Nat) (hN : (sizeB d).1 = (N : Int)) (hN2 : N ≤ 4096) : ∀ (m k : Nat), m + k = N →
    At T_roffs 0 (fun st => fin st rs_roffs = some (.sl 1 false (nums (oset o d s N)))) ic_roffs 0 nt_roffs [(1, (.ptr 0 0)), (3, .row 1 (oset o d s k).length 0 (oset o d s k).length), (4, .pv (.int .i64 N)), (6, (.pv (.int .i64 k)))] [(.obj (.box [(.pv (.int .i64 o)), (.pv (.sl 1 t (nums d))), (.pv (.sl 1 u (nums s)))])), (.obj (.row false 3 1 (nums (oset o d s k))))] := by
  have hl := form_ok hf
  intro m
  induction m with
  | zero =>
    intro k hk
    have : k = N := by omega
    subst this
    refine roffs_h0b o d s t u k k (oset o d s k) ?_
    rw [if_neg (by simp)]
    have ht : List.take (oset o d s k).length (nums (oset o d s k)) = nums (oset o d s k) := List.take_of_length_le (by simp)
    exact ⟨by simp, by rw [ht]; rfl⟩
  | succ m ih =>
    intro k hk
    refine roffs_h0b o d s t u N k (oset o d s k) ?_
    have he : idxE d (k : Int) = 0 := idxE_lt hf (by omega) (by omega)
    rw [if_pos (by simp; omega)]
    simp only [sl_ns, PV.asInt, he, bne_self_eq_false, cond_false, vw_O, vw_D, vw_S]
    refine ⟨by simp [pre_idx], by simp [pre_at]; exact pre_view_of o d s t u (by omega) (by omega), by simp [oset_length]; omega, ?_⟩
    have := ih (k + 1) (by omega)
    rw [next (by omega)]
    simpa [oset_succ, nums_append, nums, oset_length] using this
theorem roffs_run : ∀ ps, pre_v1 ps = true → ∃ p, Gets T_roffs 0 (fun st => fin st rs_roffs = some p) ic_roffs [] (st0 nt_roffs ps) ∧ Sub p (val_offs ps) := by
  intro ps hp
  unfold pre_v1 at hp
  split at hp
  · rename_i p
    obtain ⟨o, d, s, t, u, rfl, hd, hs⟩ := view_of hp
    simp only [val_offs, vw_O, vw_D, vw_S]
    cases hf : formB d s with
    | false =>
      exact ⟨.sl 0 true [], roffs_s o d s t u ⟨by simpa [pre_v1] using hp, by simp [hf]⟩, by simpa [offsB, hf] using Sub.sl0 0 1 true⟩
    | true =>
      obtain ⟨N, hN⟩ : ∃ N : Nat, (sizeB d).1 = N := by
        have h0 : 0 ≤ (sizeB d).1 := size_nonneg
        exact ⟨(sizeB d).1.toNat, by omega⟩
      have hN2 : N ≤ 4096 := by have := size_le (d := d); omega
      have hl := form_ok hf
      have key : ∀ r, (if N = 0 then (.sl 0 true []) = r else .sl 1 false (nums (oset o d s N)) = r) → Gets T_roffs 0 (fun st => fin st rs_roffs = some r) ic_roffs [] (st0 nt_roffs [.agg [.int .i64 o, .sl 1 t (nums d), .sl 1 u (nums s)]]) := by
        intro r hr
        refine roffs_s o d s t u ⟨by simpa [pre_v1] using hp, ?_⟩
        rw [if_neg (by simp [hf])]
        refine ⟨by simp [pre_size], ?_⟩
        simp only [asInt_nums, hN]
        refine roffs_h0a o d s t u N 0 ?_
        by_cases h0 : N = 0
        · subst h0
          rw [if_neg (by simp)]
          exact hr
        · have he : idxE d 0 = 0 := idxE_lt hf (by omega) (by omega)
          rw [if_pos (by simp; omega)]
          simp only [sl_ns, PV.asInt, he, bne_self_eq_false, cond_false, vw_O, vw_D, vw_S]
          rw [if_neg h0] at hr
          subst hr
          have := roffs_loop o d s t u hf N hN hN2 (N - 1) 1 (by omega)
          refine ⟨by simp [pre_idx], by simp [pre_at]; exact pre_view_of o d s t u (by omega) (by omega), ?_⟩
          first
            | (refine ⟨by simp, ?_⟩; simpa [oset_succ, oset_zero, nums_append, nums, oset_length, show IntKind.i64.wrap 1 = 1 from rfl] using this)
            | (simpa [oset_succ, oset_zero, nums_append, nums, oset_length, show IntKind.i64.wrap 1 = 1 from rfl] using this)
      by_cases h0 : N = 0
      · refine ⟨_, key (.sl 0 true []) (by rw [if_pos h0]), ?_⟩
        simpa [offsB, hf, hN, h0, oset_zero] using Sub.sl0 0 1 true
      · refine ⟨_, key (.sl 1 false (nums (oset o d s N))) (by rw [if_neg h0]), ?_⟩
        simpa [offsB, hf, hN] using Sub.refl _
  · cases hp
def ofB (d : List Int) : VR := bif (sizeB d).2 != 0 then ((0, [], []), (sizeB d).2) else ((0, d, strd d), 0)
def val_of2 : List PV → PV
  | [p] => vrP (ofB p.ns)
  | _ => .nilp
theorem of2_sub : ∀ ps, pre_size ps = true → Sub (val_of ps) (val_of2 ps) := by
  intro ps hp
  unfold pre_size at hp
  split at hp
  · rename_i t xs
    obtain ⟨ns, rfl⟩ := nums_of hp
    simp only [val_of, val_of2, sl_ns]
    cases h : (sizeB ns).2 != 0 with
    | true => simp only [ofB, h, cond_true]; exact errP_sub _
    | false =>
      have h' : (sizeB ns).2 = 0 := by simpa using h
      simp only [ofB, h', cond_false, vrP]
      exact .refl _
  · cases hp
end Go.Pl

namespace Go.Pl
open Go.RowKit
set_option maxRecDepth 100000
def pre_nil : List PV → Bool := fun ps => ps.isEmpty
def val_true : List PV → PV := fun _ => .bool true
def ic_awake : IC := (.seq (.reg [⟨(some 0), (.mv (.c (.bool false))), 0, none⟩] none) (.seq (.reg [⟨(some 10), (.bslice 3 1 2 (.int .i64 0) [(0, (.c (.int .i64 2))), (1, (.c (.int .i64 3)))]), 0, none⟩, ⟨(some 11), (.call (.c (.fn 22)) [(.t 10)]), 1, none⟩, ⟨(some 9), (.mv (.t 11)), 3, none⟩, ⟨(some 12), (.extract (.t 9) 0), 3, none⟩, ⟨(some 13), (.extract (.t 9) 1), 3, none⟩, ⟨(some 1), (.alloc (.agg [(.int .i64 0), (.sl 0 true []), (.sl 0 true [])])), 3, none⟩, ⟨none, (.store 3 (.t 1) (.t 12)), 4, none⟩, ⟨(some 2), (.mv (.t 13)), 4, none⟩] none) (.seq (.reg [⟨(some 15), (.load true [(.int .i64), (.sl 1), (.sl 1)] (.t 1)), 0, none⟩, ⟨(some 16), (.call (.c (.fn 37)) [(.t 15)]), 0, none⟩, ⟨(some 14), (.mv (.t 16)), 2, none⟩, ⟨(some 17), (.extract (.t 14) 0), 2, none⟩, ⟨(some 18), (.extract (.t 14) 1), 2, none⟩, ⟨(some 3), (.alloc (.agg [(.int .i64 0), (.sl 0 true []), (.sl 0 true [])])), 2, none⟩, ⟨none, (.store 3 (.t 3) (.t 17)), 3, none⟩, ⟨(some 4), (.mv (.t 18)), 3, none⟩] none) (.seq (.reg [⟨(some 20), (.bslice 3 1 1 (.int .i64 0) [(0, (.c (.int .i64 4)))]), 0, none⟩, ⟨(some 21), (.call (.c (.fn 22)) [(.t 20)]), 1, none⟩, ⟨(some 19), (.mv (.t 21)), 3, none⟩, ⟨(some 22), (.extract (.t 19) 0), 3, none⟩, ⟨(some 23), (.extract (.t 19) 1), 3, none⟩, ⟨(some 5), (.alloc (.agg [(.int .i64 0), (.sl 0 true []), (.sl 0 true [])])), 3, none⟩, ⟨none, (.store 3 (.t 5) (.t 22)), 4, none⟩, ⟨(some 6), (.mv (.t 23)), 4, none⟩] none) (.seq (.reg [⟨(some 25), (.load true [(.int .i64), (.sl 1), (.sl 1)] (.t 5)), 0, none⟩, ⟨(some 26), (.call (.c (.fn 60)) [(.t 25), (.c (.int .i64 2))]), 0, none⟩, ⟨(some 24), (.mv (.t 26)), 2, none⟩, ⟨(some 27), (.extract (.t 24) 0), 2, none⟩, ⟨(some 28), (.extract (.t 24) 1), 2, none⟩, ⟨(some 7), (.alloc (.agg [(.int .i64 0), (.sl 0 true []), (.sl 0 true [])])), 2, none⟩, ⟨none, (.store 3 (.t 7) (.t 27)), 3, none⟩, ⟨(some 8), (.mv (.t 28)), 3, none⟩] none) (.seq (.reg [⟨(some 29), (.mv (.t 2)), 0, none⟩, ⟨(some 30), (.bin .num .eql (.t 29) (.c (.int .i64 0))), 0, none⟩, ⟨(some 31), (.mv (.t 30)), 0, none⟩, ⟨(some 32), (.mv (.t 4)), 0, (some (31, true))⟩, ⟨(some 33), (.bin .num .eql (.t 32) (.c (.int .i64 0))), 0, (some (31, true))⟩, ⟨(some 34), (.pick (.t 31) (.t 33) (.c (.bool false))), 0, none⟩, ⟨(some 35), (.mv (.t 34)), 0, none⟩, ⟨(some 36), (.mv (.t 6)), 0, (some (35, true))⟩, ⟨(some 37), (.bin .num .eql (.t 36) (.c (.int .i64 0))), 0, (some (35, true))⟩, ⟨(some 38), (.pick (.t 35) (.t 37) (.c (.bool false))), 0, none⟩, ⟨(some 39), (.mv (.t 38)), 0, none⟩, ⟨(some 40), (.mv (.t 8)), 0, (some (39, true))⟩, ⟨(some 41), (.bin .num .eql (.t 40) (.c (.int .i64 0))), 0, (some (39, true))⟩, ⟨(some 42), (.pick (.t 39) (.t 41) (.c (.bool false))), 0, none⟩, ⟨(some 43), (.mv (.t 42)), 0, none⟩, ⟨(some 44), (.faddr 2 (.t 1)), 0, (some (43, true))⟩, ⟨(some 45), (.load false [(.sl 1)] (.t 44)), 0, (some (43, true))⟩, ⟨(some 46), (.bslice 3 1 2 (.int .i64 0) [(0, (.c (.int .i64 3))), (1, (.c (.int .i64 1)))]), 0, (some (43, true))⟩, ⟨(some 47), (.call (.c (.fn 29)) [(.t 45), (.t 46)]), 1, (some (43, true))⟩, ⟨(some 48), (.pick (.t 43) (.t 47) (.c (.bool false))), 3, none⟩, ⟨(some 49), (.mv (.t 48)), 3, none⟩, ⟨(some 50), (.load true [(.int .i64), (.sl 1), (.sl 1)] (.t 3)), 3, (some (49, true))⟩, ⟨(some 51), (.call (.c (.fn 30)) [(.t 50)]), 3, (some (49, true))⟩, ⟨(some 52), (.bslice 3 1 6 (.int .i64 0) [(0, (.c (.int .i64 0))), (1, (.c (.int .i64 3))), (2, (.c (.int .i64 1))), (3, (.c (.int .i64 4))), (4, (.c (.int .i64 2))), (5, (.c (.int .i64 5)))]), 5, (some (49, true))⟩, ⟨(some 53), (.call (.c (.fn 29)) [(.t 51), (.t 52)]), 6, (some (49, true))⟩, ⟨(some 54), (.pick (.t 49) (.t 53) (.c (.bool false))), 8, none⟩, ⟨(some 55), (.mv (.t 54)), 8, none⟩, ⟨(some 56), (.load true [(.int .i64), (.sl 1), (.sl 1)] (.t 7)), 8, (some (55, true))⟩, ⟨(some 57), (.call (.c (.fn 30)) [(.t 56)]), 8, (some (55, true))⟩, ⟨(some 58), (.bslice 3 1 6 (.int .i64 0) [(0, (.c (.int .i64 0))), (1, (.c (.int .i64 1))), (2, (.c (.int .i64 1))), (3, (.c (.int .i64 2))), (4, (.c (.int .i64 2))), (5, (.c (.int .i64 3)))]), 10, (some (55, true))⟩, ⟨(some 59), (.call (.c (.fn 29)) [(.t 57), (.t 58)]), 11, (some (55, true))⟩, ⟨(some 60), (.pick (.t 55) (.t 59) (.c (.bool false))), 13, none⟩, ⟨(some 61), (.mv (.t 60)), 13, none⟩, ⟨(some 62), (.load true [(.int .i64), (.sl 1), (.sl 1)] (.t 3)), 13, (some (61, true))⟩, ⟨(some 63), (.call (.c (.fn 27)) [(.c (.int .i64 6)), (.t 62)]), 13, (some (61, true))⟩, ⟨(some 64), (.pick (.t 61) (.t 63) (.c (.bool false))), 15, none⟩, ⟨(some 0), (.mv (.t 64)), 15, none⟩] none) .ret))))))
def rs_awake : List IRes := [(.tmp 0)]
abbrev nt_awake : Nat := 65
def T_awake : Tab := tab [(22, .pure pre_size val_of2), (37, .pure pre_v1 (val_sv0 tranC 2)), (60, .pure pre_sv1 (val_sv1 windC 1)), (29, .pure pre_ints val_ints), (30, .pure pre_v1 val_offs), (27, .pure pre_valid val_valid)]
theorem awake_s {r : PV}  (h : (.bool true) = r) : Gets T_awake 0 (fun st => fin st rs_awake = some r) ic_awake [] (st0 65 []) := Gets.w (.lit (.lit (.lit (.lit (.lit (.lit (.lit (.lit (.lit (.lit (.lit (.lit (.lit (.lit (.lit (.lit (.lit (.lit (.lit (.lit (.lit (.lit (.lit (.lit (.lit (.lit (.lit (.lit (.lit (.lit (.lit (.lit (.lit (.lit (.lit (.lit (.lit (.lit (.lit (.lit (.lit (.lit (.lit (.lit (.lit (.lit (.lit (.lit (.lit (.lit (.lit (.nil)))))))))))))))))))))))))))))))))))))))))))))))))))) h (by kernel_rfl)
end Go.Pl

namespace Go.Pl
open Go.RowKit
theorem awake_run : ∀ ps, pre_nil ps = true → Gets T_awake 0 (fun st => fin st rs_awake = some (val_true ps)) ic_awake [] (st0 nt_awake ps) := by
  intro ps hp
  have : ps = [] := List.isEmpty_iff.1 hp
  subst this
  exact awake_s rfl
end Go.Pl

namespace Go.Pl
open Go.RowKit
open Enc (enc dec is)
open EncL (encL decL isL)
structure View where
  o : Int
  d : List Int
  s : List Int
  deriving DecidableEq
instance : Enc View where
  sz := 3
  enc v := .agg [enc v.o, enc v.d, enc v.s]
  dec | .agg [a, b, c] => ⟨dec a, dec b, dec c⟩ | _ => ⟨0, [], []⟩
  is | .agg [a, b, c] => is Int a && is (List Int) b && is (List Int) c | _ => false
  is_enc v := by simp
  dec_enc v := by simp
  sub p h := by
    cases p with
    | agg xs =>
      match xs, h with
      | [a, b, c], h =>
        simp only [Bool.and_eq_true] at h
        exact .agg (.cons (Enc.sub a h.1.1).2 (.cons (Enc.sub b h.1.2).2 (.cons (Enc.sub c h.2).2 .nil)))
    | _ => cases h
theorem enc_view (v : View) : enc v = .agg [.int .i64 v.o, .sl 1 false (nums v.d), .sl 1 false (nums v.s)] := rfl
def vrT (r : VR) : View × Int := (⟨r.1.1, r.1.2.1, r.1.2.2⟩, r.2)
theorem vrP_enc (r : VR) : vrP r = enc (vrT r) := rfl
def vOk (v : View) : Bool := decide (v.d.length ≤ 1000000) && decide (v.s.length ≤ 1000000)
theorem vOk_pre {v : View} (h : vOk v = true) : pre_view (enc v) = true := by
  simp only [vOk, Bool.and_eq_true, decide_eq_true_eq] at h
  exact pre_view_of v.o v.d v.s false false (by omega) (by omega)
def vIn (v : View) : Bool := decide (v.d.length ≤ 9223372036854775807) && decide (v.s.length ≤ 9223372036854775807)
theorem vIn_pre {v : View} (h : vIn v = true) : pre_view (enc v) = true := by
  simp only [vIn, Bool.and_eq_true, decide_eq_true_eq] at h
  exact pre_view_of v.o v.d v.s false false h.1 h.2
theorem few_vOk {v : View} (h : fewB v.o v.d v.s = true) : vOk v = true := by
  simp only [fewB, Bool.and_eq_true, Bool.not_eq_true', decide_eq_false_iff_not] at h
  simp [vOk]; omega
def ofT (d : List Int) : View × Int := vrT (ofB d)
def offsT (v : View) : List Int := offsB v.o v.d v.s
@[simp] theorem vO_enc (v : View) : (enc v : PV).vO = v.o := rfl
@[simp] theorem vD_enc (v : View) : (enc v : PV).vD = v.d := by simp [enc_view]
@[simp] theorem vS_enc (v : View) : (enc v : PV).vS = v.s := by simp [enc_view]
theorem fits_enc {β : Type} [Enc β] (y : β) : Fits y (enc y) := ⟨Enc.is_enc y, Enc.dec_enc y⟩
end Go.Pl

namespace Go.Pl
open Go.RowKit
open Enc (enc dec is)
open EncL (encL decL isL)
structure Arr where
  e : Str
  d : List Int
  x : List Int
  deriving DecidableEq
instance : Enc Arr where
  sz := 3
  enc v := .agg [enc v.e, enc v.d, enc v.x]
  dec | .agg [a, b, c] => ⟨dec a, dec b, dec c⟩ | _ => ⟨⟨[]⟩, [], []⟩
  is | .agg [a, b, c] => is Str a && is (List Int) b && is (List Int) c | _ => false
  is_enc v := by simp
  dec_enc v := by simp
  sub p h := by
    cases p with
    | agg xs =>
      match xs, h with
      | [a, b, c], h =>
        simp only [Bool.and_eq_true] at h
        exact .agg (.cons (Enc.sub a h.1.1).2 (.cons (Enc.sub b h.1.2).2 (.cons (Enc.sub c h.2).2 .nil)))
    | _ => cases h
@[simp] theorem is_arr (a b c : PV) : is Arr (.agg [a, b, c]) = (is Str a && is (List Int) b && is (List Int) c) := rfl
@[simp] theorem dec_arr (a b c : PV) : (dec (.agg [a, b, c]) : Arr) = ⟨dec a, dec b, dec c⟩ := rfl
@[simp] theorem is_view (a b c : PV) : is View (.agg [a, b, c]) = (is Int a && is (List Int) b && is (List Int) c) := rfl
@[simp] theorem dec_view (a b c : PV) : (dec (.agg [a, b, c]) : View) = ⟨dec a, dec b, dec c⟩ := rfl
def validT (n : Int) (v : View) : Bool := validB n v.o v.d v.s
end Go.Pl

namespace Go.Pl
open Go.RowKit
open Enc (enc dec is)
open EncL (encL decL isL)
end Go.Pl

namespace Go.Pl
open Go.RowKit
open Enc (enc dec is)
open EncL (encL decL isL)
structure R3i where
  a : Int
  b : Int
  c : Int
  deriving DecidableEq
instance : Enc R3i where
  sz := 3
  enc v := .agg [enc v.a, enc v.b, enc v.c]
  dec | .agg [a, b, c] => ⟨dec a, dec b, dec c⟩ | _ => ⟨0, 0, 0⟩
  is | .agg [a, b, c] => is Int a && is Int b && is Int c | _ => false
  is_enc v := by simp
  dec_enc v := by simp
  sub p h := by
    cases p with
    | agg xs =>
      match xs, h with
      | [a, b, c], h =>
        simp only [Bool.and_eq_true] at h
        exact .agg (.cons (Enc.sub a h.1.1).2 (.cons (Enc.sub b h.1.2).2 (.cons (Enc.sub c h.2).2 .nil)))
    | _ => cases h
def atT (v : View) (ix : List Int) : Int × Int := atB v.o v.d v.s ix
def vofE : ExtE := fun n st q => n = 0 ∧ ∃ (env : List AV) (o : Int) (d s : List Int) (x : R3i) (rest : List Slot), st = ⟨env, .obj (.box [.pv (.int .i64 o), .pv (enc d), .pv (enc s)]) :: .obj (.box [.pv (.int .i64 x.a), .pv (.int .i64 x.b), .pv (.int .i64 x.c)]) :: rest⟩ ∧ env.length = 89 ∧ env[4]? = some (.ptr 0 0) ∧ env[5]? = some (.ptr 1 0) ∧ d.length ≤ 1000000 ∧
  q .normal ⟨((((((env.set 36 .junk).set 37 .junk).set 38 .junk).set 39 .junk).set 40 .junk).set 11 (.pv (enc ([x.a, x.b, x.c].take (min d.length 2))))).set 5 (.pv (.rptr [.int .i64 x.a, .int .i64 x.b, .int .i64 x.c])), .obj (.box [.pv (.int .i64 o), .pv (enc d), .pv (enc s)]) :: .dead :: rest⟩
end Go.Pl

namespace Go.Pl
open Go.RowKit
open Enc (enc dec is)
open EncL (encL decL isL)
set_option maxRecDepth 100000
def ic_lvof : IC := (.seq (.reg [⟨(some 4), (.box 3 (.t 1)), 0, none⟩, ⟨(some 5), (.box 3 (.t 2)), 1, none⟩, ⟨(some 6), (.mv (.c (.bool false))), 2, none⟩] none) (.seq (.seq (.reg [⟨(some 16), (.call (.c (.fn 20)) []), 0, none⟩, ⟨(some 17), (.un .not (.t 16)), 2, none⟩] none) (.cond (.t 17) (.seq (.reg [⟨(some 6), (.mv (.c (.bool false))), 0, none⟩] none) .ret) .skip)) (.seq (.seq (.reg [⟨(some 18), (.mv (.t 0)), 0, none⟩, ⟨(some 19), (.len 1 (.t 18)), 0, none⟩, ⟨(some 20), (.bin .num .gtr (.t 19) (.c (.int .i64 8))), 0, none⟩, ⟨(some 21), (.mv (.t 20)), 0, none⟩, ⟨(some 22), (.load true [(.int .i64), (.sl 1), (.sl 1)] (.t 4)), 0, (some (21, false))⟩, ⟨(some 23), (.call (.c (.fn 21)) [(.t 22)]), 0, (some (21, false))⟩, ⟨(some 24), (.un .not (.t 23)), 2, (some (21, false))⟩, ⟨(some 25), (.pick (.t 21) (.c (.bool true)) (.t 24)), 2, none⟩] none) (.cond (.t 25) (.seq (.reg [⟨(some 6), (.mv (.c (.bool true))), 0, none⟩] none) .ret) .skip)) (.seq (.reg [⟨(some 27), (.mv (.t 0)), 0, none⟩, ⟨(some 28), (.call (.c (.fn 22)) [(.t 27)]), 0, none⟩, ⟨(some 26), (.mv (.t 28)), 2, none⟩, ⟨(some 29), (.extract (.t 26) 0), 2, none⟩, ⟨(some 30), (.extract (.t 26) 1), 2, none⟩, ⟨(some 7), (.alloc (.agg [(.int .i64 0), (.sl 0 true []), (.sl 0 true [])])), 2, none⟩, ⟨none, (.store 3 (.t 7) (.t 29)), 3, none⟩, ⟨(some 8), (.mv (.t 30)), 3, none⟩] none) (.seq (.reg [⟨(some 32), (.mv (.t 0)), 0, none⟩, ⟨(some 33), (.call (.c (.fn 23)) [(.t 32)]), 0, none⟩, ⟨(some 31), (.mv (.t 33)), 2, none⟩, ⟨(some 34), (.extract (.t 31) 0), 2, none⟩, ⟨(some 35), (.extract (.t 31) 1), 2, none⟩, ⟨(some 9), (.alloc (.agg [(.int .i64 0), (.sl 0 true []), (.sl 0 true [])])), 2, none⟩, ⟨none, (.store 3 (.t 9) (.t 34)), 3, none⟩, ⟨(some 10), (.mv (.t 35)), 3, none⟩] none) (.seq (.ext 0 [4, 36, 37, 38, 5, 39, 40, 11, 7, 9, 8, 10]) (.seq (.reg [⟨(some 42), (.load true [(.int .i64), (.sl 1), (.sl 1)] (.t 4)), 0, none⟩, ⟨(some 43), (.mv (.t 11)), 0, none⟩, ⟨(some 44), (.call (.c (.fn 24)) [(.t 42), (.t 43)]), 0, none⟩, ⟨(some 41), (.mv (.t 44)), 2, none⟩, ⟨(some 45), (.extract (.t 41) 0), 2, none⟩, ⟨(some 46), (.extract (.t 41) 1), 2, none⟩, ⟨(some 12), (.mv (.t 45)), 2, none⟩, ⟨(some 13), (.mv (.t 46)), 2, none⟩] none) (.seq (.reg [⟨(some 48), (.load true [(.int .i64), (.sl 1), (.sl 1)] (.t 4)), 0, none⟩, ⟨(some 49), (.mv (.t 11)), 0, none⟩, ⟨(some 50), (.call (.c (.fn 25)) [(.t 48), (.t 49)]), 0, none⟩, ⟨(some 47), (.mv (.t 50)), 2, none⟩, ⟨(some 51), (.extract (.t 47) 0), 2, none⟩, ⟨(some 52), (.extract (.t 47) 1), 2, none⟩, ⟨(some 14), (.mv (.t 51)), 2, none⟩, ⟨(some 15), (.mv (.t 52)), 2, none⟩] none) (.seq (.reg [⟨(some 53), (.load true [(.int .i64), (.sl 1), (.sl 1)] (.t 7)), 0, none⟩, ⟨(some 54), (.load true [(.int .i64), (.sl 1), (.sl 1)] (.t 9)), 0, none⟩, ⟨(some 55), (.call (.c (.fn 26)) [(.t 53), (.t 54)]), 0, none⟩, ⟨(some 56), (.mv (.t 55)), 2, none⟩, ⟨(some 57), (.mv (.t 8)), 2, (some (56, true))⟩, ⟨(some 58), (.mv (.t 10)), 2, (some (56, true))⟩, ⟨(some 59), (.bin .num .eql (.t 57) (.t 58)), 2, (some (56, true))⟩, ⟨(some 60), (.pick (.t 56) (.t 59) (.c (.bool false))), 2, none⟩, ⟨(some 61), (.mv (.t 60)), 2, none⟩, ⟨(some 62), (.mv (.t 12)), 2, (some (61, true))⟩, ⟨(some 63), (.mv (.t 14)), 2, (some (61, true))⟩, ⟨(some 64), (.bin .num .eql (.t 62) (.t 63)), 2, (some (61, true))⟩, ⟨(some 65), (.pick (.t 61) (.t 64) (.c (.bool false))), 2, none⟩, ⟨(some 66), (.mv (.t 65)), 2, none⟩, ⟨(some 67), (.mv (.t 13)), 2, (some (66, true))⟩, ⟨(some 68), (.mv (.t 15)), 2, (some (66, true))⟩, ⟨(some 69), (.bin .num .eql (.t 67) (.t 68)), 2, (some (66, true))⟩, ⟨(some 70), (.pick (.t 66) (.t 69) (.c (.bool false))), 2, none⟩, ⟨(some 71), (.mv (.t 70)), 2, none⟩, ⟨(some 72), (.faddr 2 (.t 5)), 2, (some (71, true))⟩, ⟨(some 73), (.load false [(.int .i64)] (.t 72)), 2, (some (71, true))⟩, ⟨(some 74), (.load true [(.int .i64), (.sl 1), (.sl 1)] (.t 4)), 2, (some (71, true))⟩, ⟨(some 75), (.call (.c (.fn 27)) [(.t 73), (.t 74)]), 2, (some (71, true))⟩, ⟨(some 76), (.faddr 2 (.t 5)), 4, (some (71, true))⟩, ⟨(some 77), (.load false [(.int .i64)] (.t 76)), 4, (some (71, true))⟩, ⟨(some 78), (.load true [(.int .i64), (.sl 1), (.sl 1)] (.t 4)), 4, (some (71, true))⟩, ⟨(some 79), (.call (.c (.fn 28)) [(.t 77), (.t 78)]), 4, (some (71, true))⟩, ⟨(some 80), (.bin .bool .eql (.t 75) (.t 79)), 6, (some (71, true))⟩, ⟨(some 81), (.pick (.t 71) (.t 80) (.c (.bool false))), 6, none⟩, ⟨(some 82), (.mv (.t 81)), 6, none⟩, ⟨(some 83), (.load true [(.int .i64), (.sl 1), (.sl 1)] (.t 4)), 6, (some (82, true))⟩, ⟨(some 84), (.call (.c (.fn 30)) [(.t 83)]), 6, (some (82, true))⟩, ⟨(some 85), (.load true [(.int .i64), (.sl 1), (.sl 1)] (.t 4)), 8, (some (82, true))⟩, ⟨(some 86), (.call (.c (.fn 31)) [(.t 85)]), 8, (some (82, true))⟩, ⟨(some 87), (.call (.c (.fn 29)) [(.t 84), (.t 86)]), 10, (some (82, true))⟩, ⟨(some 88), (.pick (.t 82) (.t 87) (.c (.bool false))), 12, none⟩, ⟨(some 6), (.mv (.t 88)), 12, none⟩] (some [[], [], [0, 1], [2, 0, 1], [3, 2, 0, 1], [3, 2, 0, 1], [4, 5, 3, 2, 0, 1], [3, 6, 2, 0, 1, 4, 5], [7, 3, 6, 2, 0, 1, 4, 5], [8, 7, 3, 6, 2, 0, 1, 4, 5], [8, 7, 3, 6, 2, 0, 1, 4, 5], [9, 10, 8, 7, 3, 6, 2, 0, 1, 4, 5], [8, 11, 7, 3, 6, 2, 0, 1, 4, 5, 9, 10], [12, 8, 11, 7, 3, 6, 2, 0, 1, 4, 5, 9, 10], [13, 12, 8, 11, 7, 3, 6, 2, 0, 1, 4, 5, 9, 10], [13, 12, 8, 11, 7, 3, 6, 2, 0, 1, 4, 5, 9, 10], [14, 15, 13, 12, 8, 11, 7, 3, 6, 2, 0, 1, 4, 5, 9, 10], [13, 16, 12, 8, 11, 7, 3, 6, 2, 0, 1, 4, 5, 9, 10, 14, 15], [17, 13, 16, 12, 8, 11, 7, 3, 6, 2, 0, 1, 4, 5, 9, 10, 14, 15], [18, 17, 13, 16, 12, 8, 11, 7, 3, 6, 2, 0, 1, 4, 5, 9, 10, 14, 15], [19, 18, 17, 13, 16, 12, 8, 11, 7, 3, 6, 2, 0, 1, 4, 5, 9, 10, 14, 15], [18, 17, 13, 16, 12, 8, 11, 7, 3, 6, 2, 0, 1, 4, 5, 9, 10, 14, 15], [20, 21, 18, 19, 17, 13, 16, 12, 8, 11, 7, 3, 6, 2, 0, 1, 4, 5, 9, 10, 14, 15], [18, 17, 13, 16, 12, 8, 11, 7, 3, 6, 2, 0, 1, 4, 5, 9, 10, 14, 15], [23, 18, 17, 13, 16, 12, 8, 11, 7, 3, 6, 2, 0, 1, 4, 5, 9, 10, 14, 15], [18, 17, 13, 16, 12, 8, 11, 7, 3, 6, 2, 0, 1, 4, 5, 9, 10, 14, 15], [24, 25, 22, 18, 23, 17, 13, 16, 12, 8, 11, 7, 3, 6, 2, 0, 1, 4, 5, 9, 10, 14, 15, 20, 21, 19], [22, 26, 18, 20, 21, 19, 17, 13, 16, 12, 8, 11, 7, 3, 6, 2, 0, 1, 4, 5, 9, 10, 14, 15, 24, 25, 23], [18, 27, 17, 13, 16, 12, 8, 11, 7, 3, 6, 2, 0, 1, 4, 5, 9, 10, 14, 15, 22, 26, 20, 21, 19, 24, 25, 23], [28, 26, 18, 27, 17, 13, 16, 12, 8, 11, 7, 3, 6, 2, 0, 1, 4, 5, 9, 10, 14, 15, 22, 20, 21, 19, 24, 25, 23], [29, 28, 26, 18, 27, 17, 13, 16, 12, 8, 11, 7, 3, 6, 2, 0, 1, 4, 5, 9, 10, 14, 15, 22, 20, 21, 19, 24, 25, 23], [30, 29, 28, 26, 18, 27, 17, 13, 16, 12, 8, 11, 7, 3, 6, 2, 0, 1, 4, 5, 9, 10, 14, 15, 22, 20, 21, 19, 24, 25, 23], [29, 28, 26, 18, 27, 17, 13, 16, 12, 8, 11, 7, 3, 6, 2, 0, 1, 4, 5, 9, 10, 14, 15, 22, 20, 21, 19, 24, 25, 23], [32, 31, 29, 28, 26, 18, 27, 17, 13, 16, 12, 8, 11, 7, 3, 6, 2, 0, 1, 4, 5, 9, 10, 14, 15, 22, 20, 21, 19, 24, 25, 23, 30], [31, 33, 29, 30, 28, 26, 18, 27, 17, 13, 16, 12, 8, 11, 7, 3, 6, 2, 0, 1, 4, 5, 9, 10, 14, 15, 22, 20, 21, 19, 24, 25, 23, 32], [29, 34, 28, 26, 18, 27, 17, 13, 16, 12, 8, 11, 7, 3, 6, 2, 0, 1, 4, 5, 9, 10, 14, 15, 22, 20, 21, 19, 24, 25, 23, 31, 33, 30, 32], [35, 34, 0, 1, 2, 3, 4, 5, 6, 7, 8, 9, 10, 11, 12, 13, 14, 15, 16, 17, 18, 19, 20, 21, 22, 23, 24, 25, 26, 27, 28, 29, 30, 31, 32, 33]])) .ret)))))))))
def rs_lvof : List IRes := [(.tmp 6)]
abbrev nt_lvof : Nat := 89
def T_lvof : Tab := tab [(20, .pure (preT (fun _ : Unit => true)) (valT (fun _ : Unit => true))), (21, .pure (preT (fun x : View × Unit => vIn x.1)) (valT (fun x : View × Unit => fewB x.1.o x.1.d x.1.s))), (22, .pure (preT (fun _ : List Int × Unit => true)) (valT (fun x : List Int × Unit => ofT x.1))), (23, .pure (preT (fun _ : List Int × Unit => true)) (valT (fun x : List Int × Unit => ofT x.1))), (24, .pure (preT (fun x : View × List Int × Unit => vOk x.1 && decide (x.2.1.length ≤ 1000000))) (valT (fun x : View × List Int × Unit => atT x.1 x.2.1))), (25, .pure (preT (fun x : View × List Int × Unit => vOk x.1 && decide (x.2.1.length ≤ 1000000))) (valT (fun x : View × List Int × Unit => atT x.1 x.2.1))), (26, .pure (preT (fun x : View × View × Unit => vOk x.1 && vOk x.2.1)) (valT (fun x : View × View × Unit => decide (x.1 = x.2.1)))), (27, .pure (preT (fun x : Int × View × Unit => decide (x.1 ≤ 9223372036854775807) && vOk x.2.1)) (valT (fun x : Int × View × Unit => validT x.1 x.2.1))), (28, .pure (preT (fun x : Int × View × Unit => decide (x.1 ≤ 9223372036854775807) && vOk x.2.1)) (valT (fun x : Int × View × Unit => validT x.1 x.2.1))), (30, .pure (preT (fun x : View × Unit => vOk x.1)) (valT (fun x : View × Unit => offsT x.1))), (31, .pure (preT (fun x : View × Unit => vOk x.1)) (valT (fun x : View × Unit => offsT x.1))), (29, .pure (preT (fun x : List Int × List Int × Unit => decide (x.1.length ≤ 1000000))) (valT (fun x : List Int × List Int × Unit => decide (x.1 = x.2.1))))]
theorem lvof_s {G : PV → Prop} (ds : List Int) (v : View) (a : R3i) (h : ∃ y0 : Bool, AV.pv (valT (fun (x : Unit) => true) []) = AV.pv (enc y0) ∧ (if (!y0) = true then G ((.bool false)) else (if (decide ((↑(List.length (List.map enc ds)) : Int) > 8)) = true then G ((.bool true)) else ((Go.Pl.preT (fun (x : View × Unit) => vIn (Prod.fst x)) [(.agg [(.int .i64 (View.o v)), (.sl 1 false (List.map enc (View.d v))), (.sl 1 false (List.map enc (View.s v)))])]) = true ∧ (∃ y1 : Bool, AV.pv (valT (fun (x : View × Unit) => fewB (View.o (Prod.fst x)) (View.d (Prod.fst x)) (View.s (Prod.fst x))) [(.agg [(.int .i64 (View.o v)), (.sl 1 false (List.map enc (View.d v))), (.sl 1 false (List.map enc (View.s v)))])]) = AV.pv (enc y1) ∧ (if (!y1) = true then G ((.bool true)) else ((Go.Pl.preT (fun (x : List Int × Unit) => true) [(.sl 1 false (List.map enc ds))]) = true ∧ (∃ y2 : View × Int, AV.pv (valT (fun (x : List Int × Unit) => ofT (Prod.fst x)) [(.sl 1 false (List.map enc ds))]) = AV.pv (enc y2) ∧ ((Go.Pl.preT (fun (x : List Int × Unit) => true) [(.sl 1 false (List.map enc ds))]) = true ∧ (∃ y3 : View × Int, AV.pv (valT (fun (x : List Int × Unit) => ofT (Prod.fst x)) [(.sl 1 false (List.map enc ds))]) = AV.pv (enc y3) ∧ (vofE 0 ⟨envJ 89 0 [(4, (.ptr 0 0)), (5, (.ptr 1 0)), (7, (.ptr 2 0)), (8, (.pv (.int .i64 (Prod.snd y2)))), (9, (.ptr 3 0)), (10, (.pv (.int .i64 (Prod.snd y3)))), (11, .undef), (36, .undef), (37, .undef), (38, .undef), (39, .undef), (40, .undef)], [(.obj (.box [(.pv (.int .i64 (View.o v))), (.pv (.sl 1 false (List.map enc (View.d v)))), (.pv (.sl 1 false (List.map enc (View.s v))))])), (.obj (.box [(.pv (.int .i64 (R3i.a a))), (.pv (.int .i64 (R3i.b a))), (.pv (.int .i64 (R3i.c a)))])), (.obj (.box [(.pv (.int .i64 (View.o (Prod.fst y2)))), (.pv (.sl 1 false (List.map enc (View.d (Prod.fst y2))))), (.pv (.sl 1 false (List.map enc (View.s (Prod.fst y2)))))])), (.obj (.box [(.pv (.int .i64 (View.o (Prod.fst y3)))), (.pv (.sl 1 false (List.map enc (View.d (Prod.fst y3))))), (.pv (.sl 1 false (List.map enc (View.s (Prod.fst y3)))))]))]⟩ (fun x S' => AfX T_lvof vofE 0 (endP' rs_lvof G) ic_lvof 0 x S')))))))))))) : GetsX T_lvof vofE 0 (endP' rs_lvof G) (.inl ic_lvof) [] (st0 89 [enc ds, enc v, enc a]) := GetsX.mp (.lit (.abs (Bool) (fun YY => AV.pv (enc YY)) (.ask (.nil) (.lit (.ask (.lit (.lit (.lit (.lit (.nil))))) (.lit (.req (.abs (Bool) (fun YY => AV.pv (enc YY)) (.lit (.lit (.ask (.nil) (.req (.abs (View × Int) (fun YY => AV.pv (enc YY)) (.req (.abs (View × Int) (fun YY => AV.pv (enc YY)) (.nil)))))))))))))))) h (by kernel_rfl)
theorem lvof_x0 {G : PV → Prop} (ds : List Int) (v : View) (a : R3i) (u2 u3 : View × Int) (ix : List Int) (h : (Go.Pl.preT (fun (x : View × List Int × Unit) => vOk (Prod.fst x) && decide (List.length (Prod.fst (Prod.snd x)) ≤ 1000000)) [(.agg [(.int .i64 (View.o v)), (.sl 1 false (List.map enc (View.d v))), (.sl 1 false (List.map enc (View.s v)))]), (.sl 1 false (List.map enc ix))]) = true ∧ (∃ y0 : Int × Int, AV.pv (valT (fun (x : View × List Int × Unit) => atT (Prod.fst x) (Prod.fst (Prod.snd x))) [(.agg [(.int .i64 (View.o v)), (.sl 1 false (List.map enc (View.d v))), (.sl 1 false (List.map enc (View.s v)))]), (.sl 1 false (List.map enc ix))]) = AV.pv (enc y0) ∧ ((Go.Pl.preT (fun (x : View × List Int × Unit) => vOk (Prod.fst x) && decide (List.length (Prod.fst (Prod.snd x)) ≤ 1000000)) [(.agg [(.int .i64 (View.o v)), (.sl 1 false (List.map enc (View.d v))), (.sl 1 false (List.map enc (View.s v)))]), (.sl 1 false (List.map enc ix))]) = true ∧ (∃ y1 : Int × Int, AV.pv (valT (fun (x : View × List Int × Unit) => atT (Prod.fst x) (Prod.fst (Prod.snd x))) [(.agg [(.int .i64 (View.o v)), (.sl 1 false (List.map enc (View.d v))), (.sl 1 false (List.map enc (View.s v)))]), (.sl 1 false (List.map enc ix))]) = AV.pv (enc y1) ∧ ((Go.Pl.preT (fun (x : View × View × Unit) => vOk (Prod.fst x) && vOk (Prod.fst (Prod.snd x))) [(.agg [(.int .i64 (View.o (Prod.fst u2))), (.sl 1 false (List.map enc (View.d (Prod.fst u2)))), (.sl 1 false (List.map enc (View.s (Prod.fst u2))))]), (.agg [(.int .i64 (View.o (Prod.fst u3))), (.sl 1 false (List.map enc (View.d (Prod.fst u3)))), (.sl 1 false (List.map enc (View.s (Prod.fst u3))))])]) = true ∧ (∃ y2 : Bool, AV.pv (valT (fun (x : View × View × Unit) => decide (Prod.fst x = Prod.fst (Prod.snd x))) [(.agg [(.int .i64 (View.o (Prod.fst u2))), (.sl 1 false (List.map enc (View.d (Prod.fst u2)))), (.sl 1 false (List.map enc (View.s (Prod.fst u2))))]), (.agg [(.int .i64 (View.o (Prod.fst u3))), (.sl 1 false (List.map enc (View.d (Prod.fst u3)))), (.sl 1 false (List.map enc (View.s (Prod.fst u3))))])]) = AV.pv (enc y2) ∧ (if (y2) = true then if (Prod.snd u2 == Prod.snd u3) = true then if (Prod.fst y0 == Prod.fst y1) = true then if (Prod.snd y0 == Prod.snd y1) = true then (Go.Pl.preT (fun (x : Int × View × Unit) => decide (Prod.fst x ≤ 9223372036854775807) && vOk (Prod.fst (Prod.snd x))) [(.int .i64 (PV.asInt (List.getD (List.drop 2 [PV.int .i64 (R3i.a a), PV.int .i64 (R3i.b a), PV.int .i64 (R3i.c a)]) 0 default))), (.agg [(.int .i64 (View.o v)), (.sl 1 false (List.map enc (View.d v))), (.sl 1 false (List.map enc (View.s v)))])]) = true ∧ (∃ y3 : Bool, AV.pv (valT (fun (x : Int × View × Unit) => validT (Prod.fst x) (Prod.fst (Prod.snd x))) [(.int .i64 (PV.asInt (List.getD (List.drop 2 [PV.int .i64 (R3i.a a), PV.int .i64 (R3i.b a), PV.int .i64 (R3i.c a)]) 0 default))), (.agg [(.int .i64 (View.o v)), (.sl 1 false (List.map enc (View.d v))), (.sl 1 false (List.map enc (View.s v)))])]) = AV.pv (enc y3) ∧ ((Go.Pl.preT (fun (x : Int × View × Unit) => decide (Prod.fst x ≤ 9223372036854775807) && vOk (Prod.fst (Prod.snd x))) [(.int .i64 (PV.asInt (List.getD (List.drop 2 [PV.int .i64 (R3i.a a), PV.int .i64 (R3i.b a), PV.int .i64 (R3i.c a)]) 0 default))), (.agg [(.int .i64 (View.o v)), (.sl 1 false (List.map enc (View.d v))), (.sl 1 false (List.map enc (View.s v)))])]) = true ∧ (∃ y4 : Bool, AV.pv (valT (fun (x : Int × View × Unit) => validT (Prod.fst x) (Prod.fst (Prod.snd x))) [(.int .i64 (PV.asInt (List.getD (List.drop 2 [PV.int .i64 (R3i.a a), PV.int .i64 (R3i.b a), PV.int .i64 (R3i.c a)]) 0 default))), (.agg [(.int .i64 (View.o v)), (.sl 1 false (List.map enc (View.d v))), (.sl 1 false (List.map enc (View.s v)))])]) = AV.pv (enc y4) ∧ (if (y3 == y4) = true then (Go.Pl.preT (fun (x : View × Unit) => vOk (Prod.fst x)) [(.agg [(.int .i64 (View.o v)), (.sl 1 false (List.map enc (View.d v))), (.sl 1 false (List.map enc (View.s v)))])]) = true ∧ (∃ y5 : List Int, AV.pv (valT (fun (x : View × Unit) => offsT (Prod.fst x)) [(.agg [(.int .i64 (View.o v)), (.sl 1 false (List.map enc (View.d v))), (.sl 1 false (List.map enc (View.s v)))])]) = AV.pv (enc y5) ∧ ((Go.Pl.preT (fun (x : View × Unit) => vOk (Prod.fst x)) [(.agg [(.int .i64 (View.o v)), (.sl 1 false (List.map enc (View.d v))), (.sl 1 false (List.map enc (View.s v)))])]) = true ∧ (∃ y6 : List Int, AV.pv (valT (fun (x : View × Unit) => offsT (Prod.fst x)) [(.agg [(.int .i64 (View.o v)), (.sl 1 false (List.map enc (View.d v))), (.sl 1 false (List.map enc (View.s v)))])]) = AV.pv (enc y6) ∧ ((Go.Pl.preT (fun (x : List Int × List Int × Unit) => decide (List.length (Prod.fst x) ≤ 1000000)) [(.sl 1 false (List.map enc y5)), (.sl 1 false (List.map enc y6))]) = true ∧ (∃ y7 : Bool, AV.pv (valT (fun (x : List Int × List Int × Unit) => decide (Prod.fst x = Prod.fst (Prod.snd x))) [(.sl 1 false (List.map enc y5)), (.sl 1 false (List.map enc y6))]) = AV.pv (enc y7) ∧ (G ((.bool y7)))))))) else (G ((.bool false))))))) else (G ((.bool false))) else (G ((.bool false))) else (G ((.bool false))) else (G ((.bool false)))))))))) : AfX T_lvof vofE 0 (endP' rs_lvof G) ic_lvof 0 .normal ⟨envJ 89 0 [(4, .ptr 0 0), (5, .pv (.rptr [.int .i64 a.a, .int .i64 a.b, .int .i64 a.c])), (7, .ptr 2 0), (8, .pv (.int .i64 u2.2)), (9, .ptr 3 0), (10, .pv (.int .i64 u3.2)), (11, .pv (enc ix))], [.obj (.box [.pv (.int .i64 v.o), .pv (enc v.d), .pv (enc v.s)]), .dead, .obj (.box [.pv (.int .i64 u2.1.o), .pv (enc u2.1.d), .pv (enc u2.1.s)]), .obj (.box [.pv (.int .i64 u3.1.o), .pv (enc u3.1.d), .pv (enc u3.1.s)])]⟩ := GetsX.mp (.req (.abs (Int × Int) (fun YY => AV.pv (enc YY)) (.req (.abs (Int × Int) (fun YY => AV.pv (enc YY)) (.req (.abs (Bool) (fun YY => AV.pv (enc YY)) (.ask (.lit (.lit (.lit (.lit (.ask (.lit (.lit (.lit (.lit (.ask (.lit (.lit (.lit (.lit (.ask (.lit (.lit (.lit (.lit (.req (.abs (Bool) (fun YY => AV.pv (enc YY)) (.lit (.lit (.lit (.lit (.lit (.req (.abs (Bool) (fun YY => AV.pv (enc YY)) (.lit (.lit (.lit (.ask (.lit (.req (.abs (List Int) (fun YY => AV.pv (enc YY)) (.lit (.lit (.req (.abs (List Int) (fun YY => AV.pv (enc YY)) (.lit (.req (.abs (Bool) (fun YY => AV.pv (enc YY)) (.lit (.nil)))))))))))) (.lit (.lit (.lit (.lit (.lit (.nil))))))))))))))))))))))) (.lit (.lit (.lit (.lit (.lit (.lit (.lit (.lit (.lit (.lit (.lit (.lit (.lit (.lit (.lit (.nil))))))))))))))))))))) (.lit (.lit (.lit (.lit (.lit (.lit (.lit (.lit (.lit (.lit (.lit (.lit (.lit (.lit (.lit (.lit (.lit (.lit (.lit (.nil))))))))))))))))))))))))) (.lit (.lit (.lit (.lit (.lit (.lit (.lit (.lit (.lit (.lit (.lit (.lit (.lit (.lit (.lit (.lit (.lit (.lit (.lit (.lit (.lit (.lit (.lit (.nil))))))))))))))))))))))))))))) (.lit (.lit (.lit (.lit (.lit (.lit (.lit (.lit (.lit (.lit (.lit (.lit (.lit (.lit (.lit (.lit (.lit (.lit (.lit (.lit (.lit (.lit (.lit (.lit (.lit (.lit (.lit (.nil))))))))))))))))))))))))))))))))))) h (by kernel_rfl)
end Go.Pl

namespace Go.Pl
open Go.RowKit
open Enc (enc dec is)
open EncL (encL decL isL)
set_option maxRecDepth 100000
theorem vofOk {ds : List Int} (h : ds.length ≤ 1000000) : vOk (ofT ds).1 = true := by
  by_cases h9 : (sizeB ds).2 = 0
  · have h10 : ((sizeB ds).2 != 0) = false := by simp [h9]
    simp only [ofT, ofB, vrT, vOk, h10, cond_false, strd_length]
    simp; omega
  · have h10 : ((sizeB ds).2 != 0) = true := by simpa using h9
    simp only [ofT, ofB, vrT, vOk, h10, cond_true]
    rfl
theorem offs_le (v : View) : (offsT v).length ≤ 1000000 := by
  unfold offsT offsB
  cases formB v.d v.s with
  | false => simp
  | true => simp only [cond_true, oset_length]; have := size_le (d := v.d); omega
theorem lvof_after (ds : List Int) (v : View) (a : R3i) (hv : vOk v = true) (ha : a.c ≤ 9223372036854775807) (hds : ds.length ≤ 1000000) (ix : List Int) (hix : ix.length ≤ 1000000) :
    AfX T_lvof vofE 0 (endP' rs_lvof (Fits true)) ic_lvof 0 .normal ⟨envJ 89 0 [(4, .ptr 0 0), (5, .pv (.rptr [.int .i64 a.a, .int .i64 a.b, .int .i64 a.c])), (7, .ptr 2 0), (8, .pv (.int .i64 (ofT ds).2)), (9, .ptr 3 0), (10, .pv (.int .i64 (ofT ds).2)), (11, .pv (enc ix))], [.obj (.box [.pv (.int .i64 v.o), .pv (enc v.d), .pv (enc v.s)]), .dead, .obj (.box [.pv (.int .i64 (ofT ds).1.o), .pv (enc (ofT ds).1.d), .pv (enc (ofT ds).1.s)]), .obj (.box [.pv (.int .i64 (ofT ds).1.o), .pv (enc (ofT ds).1.d), .pv (enc (ofT ds).1.s)])]⟩ := by
  have hof := vofOk hds
  generalize ofT ds = u at hof ⊢
  refine lvof_x0 ds v a u u ix ?_
  refine ⟨pre_enc (v, ix, ()) rfl (by simp [hv]; omega), ex_enc (v, ix, ()) rfl ?_⟩
  refine ⟨pre_enc (v, ix, ()) rfl (by simp [hv]; omega), ex_enc (v, ix, ()) rfl ?_⟩
  refine ⟨pre_enc (u.1, u.1, ()) rfl (by simp [hof]), ex_enc (u.1, u.1, ()) rfl ?_⟩
  simp only [decide_true]
  rw [if_pos trivial, if_pos (by simp), if_pos (by simp), if_pos (by simp)]
  refine ⟨pre_enc (a.c, v, ()) rfl (by simp [hv]; omega), ex_enc (a.c, v, ()) rfl ?_⟩
  refine ⟨pre_enc (a.c, v, ()) rfl (by simp [hv]; omega), ex_enc (a.c, v, ()) rfl ?_⟩
  rw [if_pos (by simp)]
  refine ⟨pre_enc (v, ()) rfl hv, ex_enc (v, ()) rfl ?_⟩
  refine ⟨pre_enc (v, ()) rfl hv, ex_enc (v, ()) rfl ?_⟩
  refine ⟨pre_enc (offsT v, offsT v, ()) rfl (by simpa using offs_le v), ex_enc (offsT v, offsT v, ()) rfl ?_⟩
  exact ⟨rfl, by simp⟩
theorem lvof_run : ∀ a : List Int × View × R3i × Unit, (decide (a.1.length ≤ 9223372036854775807) && vIn a.2.1 && decide (a.2.2.1.c ≤ 9223372036854775807)) = true → GetsM T_lvof vofE 0 (endP' rs_lvof (Fits true)) ic_lvof [] (st0 nt_lvof (encL a)) := by
  rintro ⟨ds, v, a, ⟨⟩⟩ hp
  simp only [Bool.and_eq_true, decide_eq_true_eq] at hp
  obtain ⟨⟨hds, hv⟩, ha⟩ := hp
  refine lvof_s ds v a (ex_enc () rfl ?_)
  rw [if_neg (by simp)]
  by_cases h8 : ds.length ≤ 8
  · rw [if_neg (by simp; omega)]
    refine ⟨pre_enc (v, ()) rfl hv, ex_enc (v, ()) rfl ?_⟩
    simp only []
    cases h2 : fewB v.o v.d v.s with
    | false => rw [if_pos (by decide)]; exact ⟨rfl, rfl⟩
    | true =>
      rw [if_neg (by simp)]
      have hv := few_vOk h2
      have hv2 := hv
      simp only [vOk, Bool.and_eq_true, decide_eq_true_eq] at hv2
      replace hds : ds.length ≤ 1000000 := by omega
      refine ⟨pre_enc (ds, ()) rfl rfl, ex_enc (ds, ()) rfl ?_⟩
      refine ⟨pre_enc (ds, ()) rfl rfl, ex_enc (ds, ()) rfl ?_⟩
      refine ⟨rfl, _, v.o, v.d, v.s, a, _, rfl, by kernel_rfl, by kernel_rfl, by kernel_rfl, hv2.1, ?_⟩
      have h := lvof_after ds v a hv ha hds ([a.a, a.b, a.c].take (min v.d.length 2)) (by simp; omega)
      refine cast (congrArg (fun env => AfX T_lvof vofE 0 (endP' rs_lvof (Fits true)) ic_lvof 0 .normal ⟨env, _⟩) ?_) h
      kernel_rfl
  · rw [if_pos (by simp; omega)]
    exact ⟨rfl, rfl⟩
end Go.Pl

