/-
  Texts of mine that belong together (packed by pack.py), for every input: GVi, QVp, QVq, QVs, QVt, QVu, GVk, QVv.
-/
import Derived.Test.YtpdpkmihgelmoaaKA2
import Derived.Test.YtpdpkmihgelmoaaKA5
import Derived.KernelRfl
/-
  Vi: the code, and its runs from head to head (printed by pgen.py).
-/
namespace Go.Pl
open Go.RowKit
set_option linter.unusedVariables false
set_option maxRecDepth 100000


def pre_nil : List PV → Bool := fun ps => ps.isEmpty
def val_true : List PV → PV := fun _ => .bool true
def ic_awake : IC := (.seq (.reg [⟨(some 0), (.mv (.c (.bool false))), 0, none⟩] none) (.seq (.reg [⟨(some 10), (.bslice 3 1 2 (.int .i64 0) [(0, (.c (.int .i64 2))), (1, (.c (.int .i64 3)))]), 0, none⟩, ⟨(some 11), (.call (.c (.fn 22)) [(.t 10)]), 1, none⟩, ⟨(some 9), (.mv (.t 11)), 3, none⟩, ⟨(some 12), (.extract (.t 9) 0), 3, none⟩, ⟨(some 13), (.extract (.t 9) 1), 3, none⟩, ⟨(some 1), (.alloc (.agg [(.int .i64 0), (.sl 0 true []), (.sl 0 true [])])), 3, none⟩, ⟨none, (.store 3 (.t 1) (.t 12)), 4, none⟩, ⟨(some 2), (.mv (.t 13)), 4, none⟩] none) (.seq (.reg [⟨(some 15), (.load true [(.int .i64), (.sl 1), (.sl 1)] (.t 1)), 0, none⟩, ⟨(some 16), (.call (.c (.fn 37)) [(.t 15)]), 0, none⟩, ⟨(some 14), (.mv (.t 16)), 2, none⟩, ⟨(some 17), (.extract (.t 14) 0), 2, none⟩, ⟨(some 18), (.extract (.t 14) 1), 2, none⟩, ⟨(some 3), (.alloc (.agg [(.int .i64 0), (.sl 0 true []), (.sl 0 true [])])), 2, none⟩, ⟨none, (.store 3 (.t 3) (.t 17)), 3, none⟩, ⟨(some 4), (.mv (.t 18)), 3, none⟩] none) (.seq (.reg [⟨(some 20), (.bslice 3 1 1 (.int .i64 0) [(0, (.c (.int .i64 4)))]), 0, none⟩, ⟨(some 21), (.call (.c (.fn 22)) [(.t 20)]), 1, none⟩, ⟨(some 19), (.mv (.t 21)), 3, none⟩, ⟨(some 22), (.extract (.t 19) 0), 3, none⟩, ⟨(some 23), (.extract (.t 19) 1), 3, none⟩, ⟨(some 5), (.alloc (.agg [(.int .i64 0), (.sl 0 true []), (.sl 0 true [])])), 3, none⟩, ⟨none, (.store 3 (.t 5) (.t 22)), 4, none⟩, ⟨(some 6), (.mv (.t 23)), 4, none⟩] none) (.seq (.reg [⟨(some 25), (.load true [(.int .i64), (.sl 1), (.sl 1)] (.t 5)), 0, none⟩, ⟨(some 26), (.call (.c (.fn 60)) [(.t 25), (.c (.int .i64 2))]), 0, none⟩, ⟨(some 24), (.mv (.t 26)), 2, none⟩, ⟨(some 27), (.extract (.t 24) 0), 2, none⟩, ⟨(some 28), (.extract (.t 24) 1), 2, none⟩, ⟨(some 7), (.alloc (.agg [(.int .i64 0), (.sl 0 true []), (.sl 0 true [])])), 2, none⟩, ⟨none, (.store 3 (.t 7) (.t 27)), 3, none⟩, ⟨(some 8), (.mv (.t 28)), 3, none⟩] none) (.seq (.reg [⟨(some 29), (.mv (.t 2)), 0, none⟩, ⟨(some 30), (.bin .num .eql (.t 29) (.c (.int .i64 0))), 0, none⟩, ⟨(some 31), (.mv (.t 30)), 0, none⟩, ⟨(some 32), (.mv (.t 4)), 0, (some (31, true))⟩, ⟨(some 33), (.bin .num .eql (.t 32) (.c (.int .i64 0))), 0, (some (31, true))⟩, ⟨(some 34), (.pick (.t 31) (.t 33) (.c (.bool false))), 0, none⟩, ⟨(some 35), (.mv (.t 34)), 0, none⟩, ⟨(some 36), (.mv (.t 6)), 0, (some (35, true))⟩, ⟨(some 37), (.bin .num .eql (.t 36) (.c (.int .i64 0))), 0, (some (35, true))⟩, ⟨(some 38), (.pick (.t 35) (.t 37) (.c (.bool false))), 0, none⟩, ⟨(some 39), (.mv (.t 38)), 0, none⟩, ⟨(some 40), (.mv (.t 8)), 0, (some (39, true))⟩, ⟨(some 41), (.bin .num .eql (.t 40) (.c (.int .i64 0))), 0, (some (39, true))⟩, ⟨(some 42), (.pick (.t 39) (.t 41) (.c (.bool false))), 0, none⟩, ⟨(some 43), (.mv (.t 42)), 0, none⟩, ⟨(some 44), (.faddr 2 (.t 1)), 0, (some (43, true))⟩, ⟨(some 45), (.load false [(.sl 1)] (.t 44)), 0, (some (43, true))⟩, ⟨(some 46), (.bslice 3 1 2 (.int .i64 0) [(0, (.c (.int .i64 3))), (1, (.c (.int .i64 1)))]), 0, (some (43, true))⟩, ⟨(some 47), (.call (.c (.fn 29)) [(.t 45), (.t 46)]), 1, (some (43, true))⟩, ⟨(some 48), (.pick (.t 43) (.t 47) (.c (.bool false))), 3, none⟩, ⟨(some 49), (.mv (.t 48)), 3, none⟩, ⟨(some 50), (.load true [(.int .i64), (.sl 1), (.sl 1)] (.t 3)), 3, (some (49, true))⟩, ⟨(some 51), (.call (.c (.fn 30)) [(.t 50)]), 3, (some (49, true))⟩, ⟨(some 52), (.bslice 3 1 6 (.int .i64 0) [(0, (.c (.int .i64 0))), (1, (.c (.int .i64 3))), (2, (.c (.int .i64 1))), (3, (.c (.int .i64 4))), (4, (.c (.int .i64 2))), (5, (.c (.int .i64 5)))]), 5, (some (49, true))⟩, ⟨(some 53), (.call (.c (.fn 29)) [(.t 51), (.t 52)]), 6, (some (49, true))⟩, ⟨(some 54), (.pick (.t 49) (.t 53) (.c (.bool false))), 8, none⟩, ⟨(some 55), (.mv (.t 54)), 8, none⟩, ⟨(some 56), (.load true [(.int .i64), (.sl 1), (.sl 1)] (.t 7)), 8, (some (55, true))⟩, ⟨(some 57), (.call (.c (.fn 30)) [(.t 56)]), 8, (some (55, true))⟩, ⟨(some 58), (.bslice 3 1 6 (.int .i64 0) [(0, (.c (.int .i64 0))), (1, (.c (.int .i64 1))), (2, (.c (.int .i64 1))), (3, (.c (.int .i64 2))), (4, (.c (.int .i64 2))), (5, (.c (.int .i64 3)))]), 10, (some (55, true))⟩, ⟨(some 59), (.call (.c (.fn 29)) [(.t 57), (.t 58)]), 11, (some (55, true))⟩, ⟨(some 60), (.pick (.t 55) (.t 59) (.c (.bool false))), 13, none⟩, ⟨(some 61), (.mv (.t 60)), 13, none⟩, ⟨(some 62), (.load true [(.int .i64), (.sl 1), (.sl 1)] (.t 3)), 13, (some (61, true))⟩, ⟨(some 63), (.call (.c (.fn 27)) [(.c (.int .i64 6)), (.t 62)]), 13, (some (61, true))⟩, ⟨(some 64), (.pick (.t 61) (.t 63) (.c (.bool false))), 15, none⟩, ⟨(some 0), (.mv (.t 64)), 15, none⟩] none) .ret))))))
def rs_awake : List IRes := [(.tmp 0)]
abbrev nt_awake : Nat := 65
def T_awake : Tab := tab [(22, .pure pre_size val_of2), (37, .pure pre_v1 (val_sv0 tranC 2)), (60, .pure pre_sv1 (val_sv1 windC 1)), (29, .pure pre_ints val_ints), (30, .pure pre_v1 val_offs), (27, .pure pre_valid val_valid)]
theorem awake_s {r : PV}  (h : (.bool true) = r) : Gets T_awake 0 (fun st => fin st rs_awake = some r) ic_awake [] (st0 65 []) := Gets.w (.lit (.lit (.lit (.lit (.lit (.lit (.lit (.lit (.lit (.lit (.lit (.lit (.lit (.lit (.lit (.lit (.lit (.lit (.lit (.lit (.lit (.lit (.lit (.lit (.lit (.lit (.lit (.lit (.lit (.lit (.lit (.lit (.lit (.lit (.lit (.lit (.lit (.lit (.lit (.lit (.lit (.lit (.lit (.lit (.lit (.lit (.lit (.lit (.lit (.lit (.lit (.nil)))))))))))))))))))))))))))))))))))))))))))))))))))) h (by kernel_rfl)

def ic_lstep : IC := (.seq (.reg [⟨(some 2), (.box 3 (.t 0)), 0, none⟩, ⟨(some 3), (.box 2 (.t 1)), 1, none⟩, ⟨(some 4), (.mv (.c (.bool false))), 2, none⟩] none) (.seq (.seq (.reg [⟨(some 9), (.call (.c (.fn 20)) []), 0, none⟩, ⟨(some 10), (.un .not (.t 9)), 2, none⟩] none) (.cond (.t 10) (.seq (.reg [⟨(some 4), (.mv (.c (.bool false))), 0, none⟩] none) .ret) .skip)) (.seq (.seq (.reg [⟨(some 11), (.load true [(.int .i64), (.sl 1), (.sl 1)] (.t 2)), 0, none⟩, ⟨(some 12), (.call (.c (.fn 21)) [(.t 11)]), 0, none⟩, ⟨(some 13), (.un .not (.t 12)), 2, none⟩, ⟨(some 14), (.mv (.t 13)), 2, none⟩, ⟨(some 15), (.faddr 0 (.t 3)), 2, (some (14, false))⟩, ⟨(some 16), (.load false [(.int .i64)] (.t 15)), 2, (some (14, false))⟩, ⟨(some 17), (.bin .num .lss (.t 16) (.c (.int .i64 1))), 2, (some (14, false))⟩, ⟨(some 18), (.pick (.t 14) (.c (.bool true)) (.t 17)), 2, none⟩, ⟨(some 19), (.mv (.t 18)), 2, none⟩, ⟨(some 20), (.faddr 0 (.t 3)), 2, (some (19, false))⟩, ⟨(some 21), (.load false [(.int .i64)] (.t 20)), 2, (some (19, false))⟩, ⟨(some 22), (.bin .num .gtr (.t 21) (.c (.int .i64 7))), 2, (some (19, false))⟩, ⟨(some 23), (.pick (.t 19) (.c (.bool true)) (.t 22)), 2, none⟩] none) (.cond (.t 23) (.seq (.reg [⟨(some 4), (.mv (.c (.bool true))), 0, none⟩] none) .ret) .skip)) (.seq (.reg [⟨(some 25), (.load true [(.int .i64), (.sl 1), (.sl 1)] (.t 2)), 0, none⟩, ⟨(some 26), (.load true [(.int .i64), (.int .i64)] (.t 3)), 0, none⟩, ⟨(some 27), (.call (.c (.fn 64)) [(.t 25), (.t 26)]), 0, none⟩, ⟨(some 24), (.mv (.t 27)), 2, none⟩, ⟨(some 28), (.extract (.t 24) 0), 2, none⟩, ⟨(some 29), (.extract (.t 24) 1), 2, none⟩, ⟨(some 5), (.alloc (.agg [(.int .i64 0), (.sl 0 true []), (.sl 0 true [])])), 2, none⟩, ⟨none, (.store 3 (.t 5) (.t 28)), 3, none⟩, ⟨(some 6), (.mv (.t 29)), 3, none⟩] none) (.seq (.reg [⟨(some 31), (.load true [(.int .i64), (.sl 1), (.sl 1)] (.t 2)), 0, none⟩, ⟨(some 32), (.load true [(.int .i64), (.int .i64)] (.t 3)), 0, none⟩, ⟨(some 33), (.call (.c (.fn 65)) [(.t 31), (.t 32)]), 0, none⟩, ⟨(some 30), (.mv (.t 33)), 2, none⟩, ⟨(some 34), (.extract (.t 30) 0), 2, none⟩, ⟨(some 35), (.extract (.t 30) 1), 2, none⟩, ⟨(some 7), (.alloc (.agg [(.int .i64 0), (.sl 0 true []), (.sl 0 true [])])), 2, none⟩, ⟨none, (.store 3 (.t 7) (.t 34)), 3, none⟩, ⟨(some 8), (.mv (.t 35)), 3, none⟩] none) (.seq (.reg [⟨(some 36), (.load true [(.int .i64), (.sl 1), (.sl 1)] (.t 5)), 0, none⟩, ⟨(some 37), (.load true [(.int .i64), (.sl 1), (.sl 1)] (.t 7)), 0, none⟩, ⟨(some 38), (.call (.c (.fn 26)) [(.t 36), (.t 37)]), 0, none⟩, ⟨(some 39), (.mv (.t 38)), 2, none⟩, ⟨(some 40), (.mv (.t 6)), 2, (some (39, true))⟩, ⟨(some 41), (.mv (.t 8)), 2, (some (39, true))⟩, ⟨(some 42), (.bin .num .eql (.t 40) (.t 41)), 2, (some (39, true))⟩, ⟨(some 43), (.pick (.t 39) (.t 42) (.c (.bool false))), 2, none⟩, ⟨(some 4), (.mv (.t 43)), 2, none⟩] none) .ret))))))
def rs_lstep : List IRes := [(.tmp 4)]
abbrev nt_lstep : Nat := 44
def T_lstep : Tab := tab [(20, .pure pre_nil val_true), (21, .pure pre_v1 val_few), (64, .pure pre_do val_do), (65, .pure pre_rdo val_do), (26, .pure pre_v2 val_same)]
theorem lstep_s {r : PV} (o : Int) (d s : List Int) (t u : Bool) (q k : Int) (h : (pre_v1 [(.agg [(.int .i64 o), (.sl 1 t (nums d)), (.sl 1 u (nums s))])]) = true ∧ (if (!fewB (PV.agg [PV.int .i64 o, PV.sl 1 t (nums d), PV.sl 1 u (nums s)]).vO (PV.agg [PV.int .i64 o, PV.sl 1 t (nums d), PV.sl 1 u (nums s)]).vD (PV.agg [PV.int .i64 o, PV.sl 1 t (nums d), PV.sl 1 u (nums s)]).vS) = true then (.bool true) = r else (if (decide (q < 1)) = true then (.bool true) = r else (if (decide (q > 7)) = true then (.bool true) = r else ((pre_do [(.agg [(.int .i64 o), (.sl 1 t (nums d)), (.sl 1 u (nums s))]), (.agg [(.int .i64 q), (.int .i64 k)])]) = true ∧ (pre_rdo [(.agg [(.int .i64 o), (.sl 1 t (nums d)), (.sl 1 u (nums s))]), (.agg [(.int .i64 q), (.int .i64 k)])]) = true ∧ (pre_v2 [(.agg [(.int .i64 ((doB (PV.agg [PV.int .i64 q, PV.int .i64 k]).xQ (PV.agg [PV.int .i64 q, PV.int .i64 k]).xK (PV.agg [PV.int .i64 o, PV.sl 1 t (nums d), PV.sl 1 u (nums s)]).vO (PV.agg [PV.int .i64 o, PV.sl 1 t (nums d), PV.sl 1 u (nums s)]).vD (PV.agg [PV.int .i64 o, PV.sl 1 t (nums d), PV.sl 1 u (nums s)]).vS).fst.fst)), (.sl 1 false (nums (doB (PV.agg [PV.int .i64 q, PV.int .i64 k]).xQ (PV.agg [PV.int .i64 q, PV.int .i64 k]).xK (PV.agg [PV.int .i64 o, PV.sl 1 t (nums d), PV.sl 1 u (nums s)]).vO (PV.agg [PV.int .i64 o, PV.sl 1 t (nums d), PV.sl 1 u (nums s)]).vD (PV.agg [PV.int .i64 o, PV.sl 1 t (nums d), PV.sl 1 u (nums s)]).vS).fst.snd.fst)), (.sl 1 false (nums (doB (PV.agg [PV.int .i64 q, PV.int .i64 k]).xQ (PV.agg [PV.int .i64 q, PV.int .i64 k]).xK (PV.agg [PV.int .i64 o, PV.sl 1 t (nums d), PV.sl 1 u (nums s)]).vO (PV.agg [PV.int .i64 o, PV.sl 1 t (nums d), PV.sl 1 u (nums s)]).vD (PV.agg [PV.int .i64 o, PV.sl 1 t (nums d), PV.sl 1 u (nums s)]).vS).fst.snd.snd))]), (.agg [(.int .i64 ((doB (PV.agg [PV.int .i64 q, PV.int .i64 k]).xQ (PV.agg [PV.int .i64 q, PV.int .i64 k]).xK (PV.agg [PV.int .i64 o, PV.sl 1 t (nums d), PV.sl 1 u (nums s)]).vO (PV.agg [PV.int .i64 o, PV.sl 1 t (nums d), PV.sl 1 u (nums s)]).vD (PV.agg [PV.int .i64 o, PV.sl 1 t (nums d), PV.sl 1 u (nums s)]).vS).fst.fst)), (.sl 1 false (nums (doB (PV.agg [PV.int .i64 q, PV.int .i64 k]).xQ (PV.agg [PV.int .i64 q, PV.int .i64 k]).xK (PV.agg [PV.int .i64 o, PV.sl 1 t (nums d), PV.sl 1 u (nums s)]).vO (PV.agg [PV.int .i64 o, PV.sl 1 t (nums d), PV.sl 1 u (nums s)]).vD (PV.agg [PV.int .i64 o, PV.sl 1 t (nums d), PV.sl 1 u (nums s)]).vS).fst.snd.fst)), (.sl 1 false (nums (doB (PV.agg [PV.int .i64 q, PV.int .i64 k]).xQ (PV.agg [PV.int .i64 q, PV.int .i64 k]).xK (PV.agg [PV.int .i64 o, PV.sl 1 t (nums d), PV.sl 1 u (nums s)]).vO (PV.agg [PV.int .i64 o, PV.sl 1 t (nums d), PV.sl 1 u (nums s)]).vD (PV.agg [PV.int .i64 o, PV.sl 1 t (nums d), PV.sl 1 u (nums s)]).vS).fst.snd.snd))])]) = true ∧ (if ((PV.agg [PV.int .i64 (doB (PV.agg [PV.int .i64 q, PV.int .i64 k]).xQ (PV.agg [PV.int .i64 q, PV.int .i64 k]).xK (PV.agg [PV.int .i64 o, PV.sl 1 t (nums d), PV.sl 1 u (nums s)]).vO (PV.agg [PV.int .i64 o, PV.sl 1 t (nums d), PV.sl 1 u (nums s)]).vD (PV.agg [PV.int .i64 o, PV.sl 1 t (nums d), PV.sl 1 u (nums s)]).vS).fst.fst, PV.sl 1 false (nums (doB (PV.agg [PV.int .i64 q, PV.int .i64 k]).xQ (PV.agg [PV.int .i64 q, PV.int .i64 k]).xK (PV.agg [PV.int .i64 o, PV.sl 1 t (nums d), PV.sl 1 u (nums s)]).vO (PV.agg [PV.int .i64 o, PV.sl 1 t (nums d), PV.sl 1 u (nums s)]).vD (PV.agg [PV.int .i64 o, PV.sl 1 t (nums d), PV.sl 1 u (nums s)]).vS).fst.snd.fst), PV.sl 1 false (nums (doB (PV.agg [PV.int .i64 q, PV.int .i64 k]).xQ (PV.agg [PV.int .i64 q, PV.int .i64 k]).xK (PV.agg [PV.int .i64 o, PV.sl 1 t (nums d), PV.sl 1 u (nums s)]).vO (PV.agg [PV.int .i64 o, PV.sl 1 t (nums d), PV.sl 1 u (nums s)]).vD (PV.agg [PV.int .i64 o, PV.sl 1 t (nums d), PV.sl 1 u (nums s)]).vS).fst.snd.snd)]).vO == (PV.agg [PV.int .i64 (doB (PV.agg [PV.int .i64 q, PV.int .i64 k]).xQ (PV.agg [PV.int .i64 q, PV.int .i64 k]).xK (PV.agg [PV.int .i64 o, PV.sl 1 t (nums d), PV.sl 1 u (nums s)]).vO (PV.agg [PV.int .i64 o, PV.sl 1 t (nums d), PV.sl 1 u (nums s)]).vD (PV.agg [PV.int .i64 o, PV.sl 1 t (nums d), PV.sl 1 u (nums s)]).vS).fst.fst, PV.sl 1 false (nums (doB (PV.agg [PV.int .i64 q, PV.int .i64 k]).xQ (PV.agg [PV.int .i64 q, PV.int .i64 k]).xK (PV.agg [PV.int .i64 o, PV.sl 1 t (nums d), PV.sl 1 u (nums s)]).vO (PV.agg [PV.int .i64 o, PV.sl 1 t (nums d), PV.sl 1 u (nums s)]).vD (PV.agg [PV.int .i64 o, PV.sl 1 t (nums d), PV.sl 1 u (nums s)]).vS).fst.snd.fst), PV.sl 1 false (nums (doB (PV.agg [PV.int .i64 q, PV.int .i64 k]).xQ (PV.agg [PV.int .i64 q, PV.int .i64 k]).xK (PV.agg [PV.int .i64 o, PV.sl 1 t (nums d), PV.sl 1 u (nums s)]).vO (PV.agg [PV.int .i64 o, PV.sl 1 t (nums d), PV.sl 1 u (nums s)]).vD (PV.agg [PV.int .i64 o, PV.sl 1 t (nums d), PV.sl 1 u (nums s)]).vS).fst.snd.snd)]).vO && (decide ((PV.agg [PV.int .i64 (doB (PV.agg [PV.int .i64 q, PV.int .i64 k]).xQ (PV.agg [PV.int .i64 q, PV.int .i64 k]).xK (PV.agg [PV.int .i64 o, PV.sl 1 t (nums d), PV.sl 1 u (nums s)]).vO (PV.agg [PV.int .i64 o, PV.sl 1 t (nums d), PV.sl 1 u (nums s)]).vD (PV.agg [PV.int .i64 o, PV.sl 1 t (nums d), PV.sl 1 u (nums s)]).vS).fst.fst, PV.sl 1 false (nums (doB (PV.agg [PV.int .i64 q, PV.int .i64 k]).xQ (PV.agg [PV.int .i64 q, PV.int .i64 k]).xK (PV.agg [PV.int .i64 o, PV.sl 1 t (nums d), PV.sl 1 u (nums s)]).vO (PV.agg [PV.int .i64 o, PV.sl 1 t (nums d), PV.sl 1 u (nums s)]).vD (PV.agg [PV.int .i64 o, PV.sl 1 t (nums d), PV.sl 1 u (nums s)]).vS).fst.snd.fst), PV.sl 1 false (nums (doB (PV.agg [PV.int .i64 q, PV.int .i64 k]).xQ (PV.agg [PV.int .i64 q, PV.int .i64 k]).xK (PV.agg [PV.int .i64 o, PV.sl 1 t (nums d), PV.sl 1 u (nums s)]).vO (PV.agg [PV.int .i64 o, PV.sl 1 t (nums d), PV.sl 1 u (nums s)]).vD (PV.agg [PV.int .i64 o, PV.sl 1 t (nums d), PV.sl 1 u (nums s)]).vS).fst.snd.snd)]).vD = (PV.agg [PV.int .i64 (doB (PV.agg [PV.int .i64 q, PV.int .i64 k]).xQ (PV.agg [PV.int .i64 q, PV.int .i64 k]).xK (PV.agg [PV.int .i64 o, PV.sl 1 t (nums d), PV.sl 1 u (nums s)]).vO (PV.agg [PV.int .i64 o, PV.sl 1 t (nums d), PV.sl 1 u (nums s)]).vD (PV.agg [PV.int .i64 o, PV.sl 1 t (nums d), PV.sl 1 u (nums s)]).vS).fst.fst, PV.sl 1 false (nums (doB (PV.agg [PV.int .i64 q, PV.int .i64 k]).xQ (PV.agg [PV.int .i64 q, PV.int .i64 k]).xK (PV.agg [PV.int .i64 o, PV.sl 1 t (nums d), PV.sl 1 u (nums s)]).vO (PV.agg [PV.int .i64 o, PV.sl 1 t (nums d), PV.sl 1 u (nums s)]).vD (PV.agg [PV.int .i64 o, PV.sl 1 t (nums d), PV.sl 1 u (nums s)]).vS).fst.snd.fst), PV.sl 1 false (nums (doB (PV.agg [PV.int .i64 q, PV.int .i64 k]).xQ (PV.agg [PV.int .i64 q, PV.int .i64 k]).xK (PV.agg [PV.int .i64 o, PV.sl 1 t (nums d), PV.sl 1 u (nums s)]).vO (PV.agg [PV.int .i64 o, PV.sl 1 t (nums d), PV.sl 1 u (nums s)]).vD (PV.agg [PV.int .i64 o, PV.sl 1 t (nums d), PV.sl 1 u (nums s)]).vS).fst.snd.snd)]).vD) && decide ((PV.agg [PV.int .i64 (doB (PV.agg [PV.int .i64 q, PV.int .i64 k]).xQ (PV.agg [PV.int .i64 q, PV.int .i64 k]).xK (PV.agg [PV.int .i64 o, PV.sl 1 t (nums d), PV.sl 1 u (nums s)]).vO (PV.agg [PV.int .i64 o, PV.sl 1 t (nums d), PV.sl 1 u (nums s)]).vD (PV.agg [PV.int .i64 o, PV.sl 1 t (nums d), PV.sl 1 u (nums s)]).vS).fst.fst, PV.sl 1 false (nums (doB (PV.agg [PV.int .i64 q, PV.int .i64 k]).xQ (PV.agg [PV.int .i64 q, PV.int .i64 k]).xK (PV.agg [PV.int .i64 o, PV.sl 1 t (nums d), PV.sl 1 u (nums s)]).vO (PV.agg [PV.int .i64 o, PV.sl 1 t (nums d), PV.sl 1 u (nums s)]).vD (PV.agg [PV.int .i64 o, PV.sl 1 t (nums d), PV.sl 1 u (nums s)]).vS).fst.snd.fst), PV.sl 1 false (nums (doB (PV.agg [PV.int .i64 q, PV.int .i64 k]).xQ (PV.agg [PV.int .i64 q, PV.int .i64 k]).xK (PV.agg [PV.int .i64 o, PV.sl 1 t (nums d), PV.sl 1 u (nums s)]).vO (PV.agg [PV.int .i64 o, PV.sl 1 t (nums d), PV.sl 1 u (nums s)]).vD (PV.agg [PV.int .i64 o, PV.sl 1 t (nums d), PV.sl 1 u (nums s)]).vS).fst.snd.snd)]).vS = (PV.agg [PV.int .i64 (doB (PV.agg [PV.int .i64 q, PV.int .i64 k]).xQ (PV.agg [PV.int .i64 q, PV.int .i64 k]).xK (PV.agg [PV.int .i64 o, PV.sl 1 t (nums d), PV.sl 1 u (nums s)]).vO (PV.agg [PV.int .i64 o, PV.sl 1 t (nums d), PV.sl 1 u (nums s)]).vD (PV.agg [PV.int .i64 o, PV.sl 1 t (nums d), PV.sl 1 u (nums s)]).vS).fst.fst, PV.sl 1 false (nums (doB (PV.agg [PV.int .i64 q, PV.int .i64 k]).xQ (PV.agg [PV.int .i64 q, PV.int .i64 k]).xK (PV.agg [PV.int .i64 o, PV.sl 1 t (nums d), PV.sl 1 u (nums s)]).vO (PV.agg [PV.int .i64 o, PV.sl 1 t (nums d), PV.sl 1 u (nums s)]).vD (PV.agg [PV.int .i64 o, PV.sl 1 t (nums d), PV.sl 1 u (nums s)]).vS).fst.snd.fst), PV.sl 1 false (nums (doB (PV.agg [PV.int .i64 q, PV.int .i64 k]).xQ (PV.agg [PV.int .i64 q, PV.int .i64 k]).xK (PV.agg [PV.int .i64 o, PV.sl 1 t (nums d), PV.sl 1 u (nums s)]).vO (PV.agg [PV.int .i64 o, PV.sl 1 t (nums d), PV.sl 1 u (nums s)]).vD (PV.agg [PV.int .i64 o, PV.sl 1 t (nums d), PV.sl 1 u (nums s)]).vS).fst.snd.snd)]).vS))) = true then (.bool ((doB (PV.agg [PV.int .i64 q, PV.int .i64 k]).xQ (PV.agg [PV.int .i64 q, PV.int .i64 k]).xK (PV.agg [PV.int .i64 o, PV.sl 1 t (nums d), PV.sl 1 u (nums s)]).vO (PV.agg [PV.int .i64 o, PV.sl 1 t (nums d), PV.sl 1 u (nums s)]).vD (PV.agg [PV.int .i64 o, PV.sl 1 t (nums d), PV.sl 1 u (nums s)]).vS).snd == (doB (PV.agg [PV.int .i64 q, PV.int .i64 k]).xQ (PV.agg [PV.int .i64 q, PV.int .i64 k]).xK (PV.agg [PV.int .i64 o, PV.sl 1 t (nums d), PV.sl 1 u (nums s)]).vO (PV.agg [PV.int .i64 o, PV.sl 1 t (nums d), PV.sl 1 u (nums s)]).vD (PV.agg [PV.int .i64 o, PV.sl 1 t (nums d), PV.sl 1 u (nums s)]).vS).snd)) = r else ((.bool false) = r))))))) : Gets T_lstep 0 (fun st => fin st rs_lstep = some r) ic_lstep [] (st0 44 [(.agg [.int .i64 o, .sl 1 t (nums d), .sl 1 u (nums s)]), .agg [.int .i64 q, .int .i64 k]]) := Gets.w (.lit (.lit (.req (.ask (.lit (.lit (.lit (.lit (.lit (.lit (.lit (.lit (.nil))))))))) (.lit (.lit (.lit (.lit (.ask (.lit (.lit (.lit (.lit (.nil))))) (.lit (.lit (.lit (.lit (.ask (.nil) (.req (.req (.req (.ask (.lit (.lit (.lit (.lit (.nil))))) (.lit (.lit (.lit (.nil)))))))))))))))))))))) h (by kernel_rfl)

end Go.Pl

/-
  The law of a step, by its run.
-/
namespace Go.Pl
open Go.RowKit
set_option linter.unusedVariables false
set_option linter.unusedSimpArgs false

theorem awake_run : ∀ ps, pre_nil ps = true → Gets T_awake 0 (fun st => fin st rs_awake = some (val_true ps)) ic_awake [] (st0 nt_awake ps) := by
  intro ps hp
  have : ps = [] := List.isEmpty_iff.1 hp
  subst this
  exact awake_s rfl

theorem size6 {d : List Int} (h : (sizeB d).2 = 0) : d.length ≤ 6 := (sizeB_ok (by simp [h])).1
/-- A step's view is small. -/
theorem stepB_small (f : Chg) (rk : Nat) (o : Int) (d s : List Int) (k : Int) (hf : ∀ c, (dimC f c).length ≤ 8 ∧ (strC f c).length ≤ 8) : (stepB f rk o d s k).1.2.1.length ≤ 1000000 ∧ (stepB f rk o d s k).1.2.2.length ≤ 1000000 := by
  unfold stepB
  cases h : formB d s with
  | false => simp
  | true =>
    obtain ⟨h6, hl⟩ := form_ok h
    obtain ⟨k1, k2⟩ := hf (caT rk o d s k)
    by_cases hr : d.length < rk
    · simp [hr]
    · cases h1 : errC f (caT rk o d s k) != 0 with
      | true => simp [hr]
      | false =>
        cases h2 : (sizeB (d.take (d.length - rk) ++ dimC f (caT rk o d s k))).2 != 0 with
        | true => simp [hr]
        | false =>
          simp only [hr, decide_false, cond_false, cond_true, List.length_append, List.length_take]
          omega
theorem chg_small (q : Int) : ∀ c, (dimC (chgOf q).1 c).length ≤ 8 ∧ (strC (chgOf q).1 c).length ≤ 8 := by
  intro c
  unfold chgOf
  repeat' split
  · simp only [dimC, strC, takeC]; by_cases h : c.k < 0 ∨ c.k > n0 c <;> simp [h]
  · simp only [dimC, strC, dropC]; by_cases h : c.k < 0 ∨ c.k > n0 c <;> simp [h]
  · simp [dimC, strC, revC]
  · simp [dimC, strC, tranC]
  · simp only [dimC, strC, diagC]; by_cases h : n0 c ≠ n1 c <;> simp [h]
  · simp only [dimC, strC, windC]; by_cases h : c.k < 0 ∨ c.k > n0 c <;> simp [h]
  · simp only [dimC, strC, chunkC]; by_cases h : c.k < 1 ∨ c.k > 64 <;> by_cases h2 : (n0 c).tmod c.k ≠ 0 <;> simp [h, h2]
theorem doB_small (q k o : Int) (d s : List Int) : (doB q k o d s).1.2.1.length ≤ 1000000 ∧ (doB q k o d s).1.2.2.length ≤ 1000000 := stepB_small _ _ _ _ _ _ (chg_small q)

def pre_lstep : List PV → Bool
  | [p, .agg [.int .i64 _, .int .i64 _]] => pre_view p && in64 p.vO
  | _ => false
theorem lstep_run : ∀ ps, pre_lstep ps = true → Gets T_lstep 0 (fun st => fin st rs_lstep = some (val_true ps)) ic_lstep [] (st0 nt_lstep ps) := by
  intro ps hp
  unfold pre_lstep at hp
  split at hp
  · rename_i p q k
    simp only [Bool.and_eq_true] at hp
    obtain ⟨hv, hin⟩ := hp
    obtain ⟨o, d, s, t, u, rfl, hd, hs⟩ := view_of hv
    rw [vw_O] at hin
    refine lstep_s o d s t u q k ⟨by simpa [pre_v1] using hv, ?_⟩
    by_cases h0 : fewB o d s = true
    · rw [if_neg (by simpa using h0)]
      by_cases h1 : q < 1
      · rw [if_pos (by simpa using h1)]; rfl
      · rw [if_neg (by simpa using h1)]
        by_cases h7 : q > 7
        · rw [if_pos (by simpa using h7)]; rfl
        · rw [if_neg (by simpa using h7)]
          have hsm := doB_small q k o d s
          refine ⟨by simp [pre_do, hv]; omega, by simp [pre_rdo, hv, hin]; omega, ?_, ?_⟩
          · have hw := pre_view_of (doB q k o d s).1.1 (doB q k o d s).1.2.1 (doB q k o d s).1.2.2 false false (by omega) (by omega)
            simp only [PV.xQ, PV.xK, PV.fld, PV.asInt, List.getD_cons_zero, List.getD_cons_succ, vw_O, vw_D, vw_S, pre_v2, hw, Bool.and_eq_true, decide_eq_true_eq]
            exact ⟨trivial, trivial, hsm.1, hsm.2⟩
          · simp [val_true]
    · rw [if_pos (by simpa using h0)]; rfl
  · cases hp
end Go.Pl

/-
  Steps as functions of what they are handed.
-/
namespace Go.Pl
open Go.RowKit
set_option linter.unusedVariables false
set_option linter.unusedSimpArgs false

def stepV0 (f : Chg) (rk : Nat) (ps : List PV) : VR := match ps with | [p] => stepB f rk p.vO p.vD p.vS 0 | _ => ((0, [], []), 0)
def val_tv0 (f : Chg) (rk : Nat) (ps : List PV) : PV := vrP (stepV0 f rk ps)
theorem tv0_eq (f : Chg) (rk : Nat) (ps : List PV) (h : pre_v1 ps = true) : val_sv0 f rk ps = val_tv0 f rk ps := by
  unfold pre_v1 at h
  split at h
  · rfl
  · cases h
def stepV1 (f : Chg) (rk : Nat) (ps : List PV) : VR := match ps with | [p, .int _ k] => stepB f rk p.vO p.vD p.vS k | _ => ((0, [], []), 0)
def val_tv1 (f : Chg) (rk : Nat) (ps : List PV) : PV := vrP (stepV1 f rk ps)
theorem tv1_eq (f : Chg) (rk : Nat) (ps : List PV) (h : pre_sv1 ps = true) : val_sv1 f rk ps = val_tv1 f rk ps := by
  unfold pre_sv1 at h
  split at h
  · rfl
  · cases h
def offsV (ps : List PV) : List Int := match ps with | [p] => offsB p.vO p.vD p.vS | _ => []
def val_toffs (ps : List PV) : PV := .sl 1 false (nums (offsV ps))
theorem toffs_eq (ps : List PV) (h : pre_v1 ps = true) : val_offs ps = val_toffs ps := by
  unfold pre_v1 at h
  split at h
  · rfl
  · cases h
def fewV (ps : List PV) : Bool := match ps with | [p] => fewB p.vO p.vD p.vS | _ => false
def val_tfew (ps : List PV) : PV := .bool (fewV ps)
theorem tfew_eq (ps : List PV) (h : pre_v1 ps = true) : val_few ps = val_tfew ps := by
  unfold pre_v1 at h
  split at h
  · rfl
  · cases h
def sameV (ps : List PV) : Bool := match ps with | [p, q] => (p.vO == q.vO && (decide (p.vD = q.vD) && decide (p.vS = q.vS))) | _ => false
def val_tsame (ps : List PV) : PV := .bool (sameV ps)
theorem tsame_eq (ps : List PV) (h : pre_v2 ps = true) : val_same ps = val_tsame ps := by
  unfold pre_v2 at h
  split at h
  · rfl
  · cases h
def intsV (ps : List PV) : Bool := match ps with | [p, q] => decide (p.ns = q.ns) | _ => false
def val_tints (ps : List PV) : PV := .bool (intsV ps)
theorem tints_eq (ps : List PV) (h : pre_ints ps = true) : val_ints ps = val_tints ps := by
  unfold pre_ints at h
  split at h
  · simp only [val_ints, val_tints, intsV, PV.ns, PV.asXs]
    congr 1
  · cases h
@[simp] theorem stepV0_v (f : Chg) (rk : Nat) (o : Int) (d s : List Int) (t u : Bool) : stepV0 f rk [.agg [.int .i64 o, .sl 1 t (nums d), .sl 1 u (nums s)]] = stepB f rk o d s 0 := by simp [stepV0]
@[simp] theorem stepV1_v (f : Chg) (rk : Nat) (o : Int) (d s : List Int) (t u : Bool) (k : Int) : stepV1 f rk [.agg [.int .i64 o, .sl 1 t (nums d), .sl 1 u (nums s)], .int .i64 k] = stepB f rk o d s k := by simp [stepV1]
@[simp] theorem offsV_v (o : Int) (d s : List Int) (t u : Bool) : offsV [.agg [.int .i64 o, .sl 1 t (nums d), .sl 1 u (nums s)]] = offsB o d s := by simp [offsV]
@[simp] theorem fewV_v (o : Int) (d s : List Int) (t u : Bool) : fewV [.agg [.int .i64 o, .sl 1 t (nums d), .sl 1 u (nums s)]] = fewB o d s := by simp [fewV]
@[simp] theorem sameV_v (o o' : Int) (d s d' s' : List Int) (t u t' u' : Bool) : sameV [.agg [.int .i64 o, .sl 1 t (nums d), .sl 1 u (nums s)], .agg [.int .i64 o', .sl 1 t' (nums d'), .sl 1 u' (nums s')]] = (o == o' && (decide (d = d') && decide (s = s'))) := by simp [sameV]
@[simp] theorem intsV_v (d s : List Int) (t u : Bool) : intsV [.sl 1 t (nums d), .sl 1 u (nums s)] = decide (d = s) := by simp [intsV]

/-! ### twice -/
theorem few_in {o : Int} {d s : List Int} (h : fewB o d s = true) : (-1000000 ≤ o ∧ o ≤ 1000000) ∧ ∀ x ∈ s, -1000000 ≤ x ∧ x ≤ 1000000 := by
  simp only [fewB, Bool.and_eq_true, Bool.not_eq_true', decide_eq_false_iff_not, List.all_eq_true] at h
  exact ⟨⟨by omega, by omega⟩, fun x hx => by have := h.2.2.2.2.1 x hx; omega⟩

/-- The product. -/
def prodI : List Int → Int
  | [] => 1
  | x :: l => x * prodI l
theorem prodI_append : ∀ (a b : List Int), prodI (a ++ b) = prodI a * prodI b
  | [], b => by simp [prodI]
  | x :: a, b => by simp [prodI, prodI_append a b, Int.mul_assoc]
theorem prodI_pos : ∀ {l : List Int}, (∀ x ∈ l, 1 ≤ x) → 1 ≤ prodI l
  | [], _ => by simp [prodI]
  | x :: l, h => by
    have h1 := h x List.mem_cons_self
    have h2 := prodI_pos (l := l) fun y hy => h y (List.mem_cons_of_mem _ hy)
    simp only [prodI]
    have : 1 * 1 ≤ x * prodI l := Int.mul_le_mul h1 h2 (by omega) (by omega)
    omega
theorem prodB_iff : ∀ {l : List Int} {p : Int}, 1 ≤ p → (∀ x ∈ l, 1 ≤ x) → p ≤ 4096 → ((∃ n, prodB p l = some n) ↔ p * prodI l ≤ 4096)
  | [], p, _, _, h => by simp [prodB, prodI, h]
  | x :: l, p, hp, hl, _ => by
    have h1 := hl x List.mem_cons_self
    have h2 := prodI_pos (l := l) fun y hy => hl y (List.mem_cons_of_mem _ hy)
    have hpx : 1 ≤ p * x := by have : 1 * 1 ≤ p * x := Int.mul_le_mul hp h1 (by omega) (by omega); omega
    have hle : p * x ≤ p * (x * prodI l) := by
      rw [← Int.mul_assoc]
      have : p * x * 1 ≤ p * x * prodI l := Int.mul_le_mul_of_nonneg_left h2 (by omega)
      omega
    simp only [prodB, prodI]
    by_cases hb : 4096 < p * x
    · simp only [hb, decide_true, cond_true]
      constructor
      · rintro ⟨n, hn⟩; cases hn
      · intro h; omega
    · simp only [hb, decide_false, cond_false]
      rw [prodB_iff hpx (fun y hy => hl y (List.mem_cons_of_mem _ hy)) (by omega), Int.mul_assoc]
/-- Dimensions are well. -/
def dimsOK (l : List Int) : Prop := l.length ≤ 6 ∧ (∀ x ∈ l, 0 ≤ x ∧ x ≤ 4096) ∧ ((0 : Int) ∈ l ∨ prodI l ≤ 4096)
theorem all_dim {l : List Int} : l.all dimB = true ↔ ∀ x ∈ l, 0 ≤ x ∧ x ≤ 4096 := by
  simp [List.all_eq_true, dimB]
theorem any_zero {l : List Int} : l.any (· == 0) = true ↔ (0 : Int) ∈ l := by
  simp [List.any_eq_true]
theorem size_ok {l : List Int} : (sizeB l).2 = 0 ↔ dimsOK l := by
  unfold sizeB dimsOK
  by_cases h6 : 6 < l.length
  · simp [h6]; omega
  · cases ha : l.all dimB with
    | false =>
      have : ¬ ∀ x ∈ l, 0 ≤ x ∧ x ≤ 4096 := fun h => by rw [← all_dim, ha] at h; cases h
      simp only [h6, decide_false, cond_false, this, false_and, and_false, iff_false]
      decide
    | true =>
      have hall := all_dim.1 ha
      cases hz : l.any (· == 0) with
      | true =>
        have h0 := any_zero.1 hz
        simp only [h6, decide_false, cond_false, cond_true, true_iff]
        exact ⟨by omega, hall, .inl h0⟩
      | false =>
        have h0 : ¬ (0 : Int) ∈ l := fun h => by rw [← any_zero, hz] at h; cases h
        have hpos : ∀ x ∈ l, 1 ≤ x := fun x hx => by
          have := hall x hx
          by_cases e : x = 0
          · subst e; exact absurd hx h0
          · omega
        have key := prodB_iff (l := l) (p := 1) (by omega) hpos (by omega)
        rw [Int.one_mul] at key
        simp only [h6, decide_false, cond_false, cond_true]
        cases hp : prodB 1 l with
        | none =>
          simp only [hp] at key
          constructor
          · intro h; simp at h
          · rintro ⟨_, _, h | h⟩
            · exact absurd h h0
            · obtain ⟨n, hn⟩ := key.2 h; cases hn
        | some n =>
          simp only [true_iff]
          exact ⟨by omega, hall, .inr (key.1 ⟨n, hp⟩)⟩
theorem form_iff {d s : List Int} : formB d s = true ↔ dimsOK d ∧ s.length = d.length := by
  simp only [formB, Bool.and_eq_true, beq_iff_eq, decide_eq_true_eq, size_ok]

theorem madeB_ok {k : Nat} {off : Int} {d s xs ys : List Int} (h : dimsOK (d.take k ++ xs)) : madeB k off d s xs ys = ((off, d.take k ++ xs, s.take k ++ ys), 0) := by
  simp [madeB, size_ok.2 h]
theorem take_last {α : Type} [Inhabited α] {l : List α} (z : α) (h : 1 ≤ l.length) : l.take (l.length - 1) ++ [l.getD (l.length - 1) z] = l := by
  have hlt : l.length - 1 < l.length := by omega
  rw [show l.getD (l.length - 1) z = l[l.length - 1] by simp [List.getD, hlt]]
  have := List.take_append_getElem (l := l) (i := l.length - 1) hlt
  rw [this]
  exact List.take_of_length_le (by omega)

theorem getD_mem {l : List Int} {j : Nat} (h : j < l.length) : l.getD j 0 ∈ l := by
  simp [List.getD, h]
theorem last_two {l : List Int} (h : 2 ≤ l.length) : ∃ p a b, l = p ++ [a, b] ∧ l.length - 2 = p.length ∧ l.getD (l.length - 1) 0 = b ∧ l.getD (l.length - 2) 0 = a ∧ l.take (l.length - 2) = p := by
  obtain ⟨p, c, rfl⟩ : ∃ p c, l = p ++ [c] := by
    have := List.eq_nil_or_concat l
    rcases this with rfl | ⟨p, c, rfl⟩
    · simp at h
    · exact ⟨p, c, by simp⟩
  obtain ⟨p, a, rfl⟩ : ∃ q c, p = q ++ [c] := by
    have := List.eq_nil_or_concat p
    rcases this with rfl | ⟨p, c, rfl⟩
    · simp at h
    · exact ⟨p, c, by simp⟩
  refine ⟨p, a, c, by simp, by simp, ?_, ?_, ?_⟩
  · simp [List.getD]
  · simp [List.getD]
  · simp
def revO (o : Int) (d s : List Int) : Int := if d.getD (d.length - 1) 0 > 0 then w64 (o + w64 (w64 (d.getD (d.length - 1) 0 - 1) * s.getD (d.length - 1) 0)) else o
theorem rev_ok {o : Int} {d s : List Int} (h : formB d s = true) (h1 : 1 ≤ d.length) : stepB revC 1 o d s 0 = ((revO o d s, d, s.take (d.length - 1) ++ [w64 (-s.getD (d.length - 1) 0)]), 0) := by
  have hd := (form_iff.1 h).1
  rw [stepB_ok h (by omega) (show revC (caT 1 o d s 0) = .inr (revO o d s, [d.getD (d.length - 1) 0], [w64 (-s.getD (d.length - 1) 0)]) by
    simp only [revC, caT_o, n0_ca o d s 0 (Nat.le_refl 1) h1, m0_ca o d s 0 (Nat.le_refl 1) h1, revO]), madeB_ok (by rw [take_last 0 h1]; exact hd), take_last 0 h1]
theorem tran_ok {o : Int} {d s : List Int} (h : formB d s = true) (h2 : 2 ≤ d.length) (hd : dimsOK (d.take (d.length - 2) ++ [d.getD (d.length - 1) 0, d.getD (d.length - 2) 0])) : stepB tranC 2 o d s 0 = ((o, d.take (d.length - 2) ++ [d.getD (d.length - 1) 0, d.getD (d.length - 2) 0], s.take (d.length - 2) ++ [s.getD (d.length - 1) 0, s.getD (d.length - 2) 0]), 0) := by
  rw [stepB_ok h (by omega) (show tranC (caT 2 o d s 0) = .inr (o, [d.getD (d.length - 1) 0, d.getD (d.length - 2) 0], [s.getD (d.length - 1) 0, s.getD (d.length - 2) 0]) by
    simp only [tranC, caT_o, n0_ca o d s 0 (show 1 ≤ 2 by omega) h2, m0_ca o d s 0 (show 1 ≤ 2 by omega) h2, n1_ca o d s 0 h2, m1_ca o d s 0 h2]), madeB_ok hd]
end Go.Pl

/-
  More of what is done with views, as functions of what they are handed; lists of steps.
-/
namespace Go.Pl
open Go.RowKit
set_option linter.unusedVariables false
set_option linter.unusedSimpArgs false

def ofV (ps : List PV) : VR := match ps with | [p] => ofB p.ns | _ => ((0, [], []), 0)
def val_tof (ps : List PV) : PV := vrP (ofV ps)
theorem tof_eq (ps : List PV) (h : pre_size ps = true) : val_of2 ps = val_tof ps := by
  unfold pre_size at h
  split at h
  · rfl
  · cases h
@[simp] theorem ofV_v (d : List Int) (t : Bool) : ofV [.sl 1 t (nums d)] = ofB d := by simp [ofV]
def doV (ps : List PV) : VR := match ps with | [p, x] => doB x.xQ x.xK p.vO p.vD p.vS | _ => ((0, [], []), 0)
def val_tdo (ps : List PV) : PV := vrP (doV ps)
theorem tdo_eq (ps : List PV) (h : pre_do ps = true) : val_do ps = val_tdo ps := by
  unfold pre_do at h
  split at h
  · rfl
  · cases h
@[simp] theorem doV_v (o : Int) (d s : List Int) (t u : Bool) (q k : Int) : doV [.agg [.int .i64 o, .sl 1 t (nums d), .sl 1 u (nums s)], .agg [.int .i64 q, .int .i64 k]] = doB q k o d s := by
  simp only [doV, PV.xQ, PV.xK, PV.fld, PV.asInt, List.getD_cons_zero, List.getD_cons_succ, vw_O, vw_D, vw_S]
def validV (ps : List PV) : Bool := match ps with | [n, p] => validB n.asInt p.vO p.vD p.vS | _ => false
def val_tvalid (ps : List PV) : PV := .bool (validV ps)
theorem tvalid_eq (ps : List PV) (h : pre_valid ps = true) : val_valid ps = val_tvalid ps := by
  unfold pre_valid at h
  split at h
  · rfl
  · cases h
@[simp] theorem validV_v (n o : Int) (d s : List Int) (t u : Bool) : validV [.int .i64 n, .agg [.int .i64 o, .sl 1 t (nums d), .sl 1 u (nums s)]] = validB n o d s := by simp [validV, PV.asInt]
/-- The program's step, whatever its kind. -/
def pre_do2 : List PV → Bool
  | [p, .agg [.int .i64 _, .int .i64 _]] => pre_view p
  | _ => false
theorem do2_run : ∀ ps, pre_do2 ps = true → Gets T_do 0 (fun st => fin st rs_do = some (val_tdo ps)) ic_do [] (st0 nt_do ps) := by
  intro ps hp
  unfold pre_do2 at hp
  split at hp
  · rename_i p q k
    obtain ⟨o, d, s, t, u, rfl, hd, hs⟩ := view_of hp
    refine do_s o d s t u q k ?_
    simp only [val_tdo, doV_v]
    have hq : q = 1 ∨ q = 2 ∨ q = 3 ∨ q = 4 ∨ q = 5 ∨ q = 6 ∨ (q ≠ 1 ∧ q ≠ 2 ∧ q ≠ 3 ∧ q ≠ 4 ∧ q ≠ 5 ∧ q ≠ 6) := by omega
    rcases hq with rfl | rfl | rfl | rfl | rfl | rfl | ⟨h1, h2, h3, h4, h5, h6⟩
    all_goals first
      | (simp [doB, chgOf, pre_sv1, pre_v1, hp, vrP, ← rev_k o d s k, ← tran_k o d s k, ← diag_k o d s k]; done)
      | (simp [doB, chgOf, pre_sv1, pre_v1, hp, vrP, h1, h2, h3, h4, h5, h6]; done)
  · cases hp
def stp (p : Int × Int) : PV := .agg [.int .i64 p.1, .int .i64 p.2]
def stps (l : List (Int × Int)) : List PV := l.map stp
@[simp] theorem stps_length (l : List (Int × Int)) : (stps l).length = l.length := by simp [stps]
theorem stps_at {l : List (Int × Int)} {k : Nat} (h : k < l.length) : (stps l).getD k default = stp l[k] := by simp [stps, List.getD, h]
end Go.Pl

/-
  Steps of views keep them inside: the plain law.
-/
namespace Go.Pl
open Go.RowKit
set_option linter.unusedVariables false
set_option linter.unusedSimpArgs false

/-- What a dimension adds below and above. -/
def lo1 (d s : Int) : Int := if s < 0 then (d - 1) * s else 0
def hi1 (d s : Int) : Int := if s < 0 then 0 else (d - 1) * s
def spl : List Int → List Int → Int
  | d :: ds, s :: ss => lo1 d s + spl ds ss
  | _, _ => 0
def sph : List Int → List Int → Int
  | d :: ds, s :: ss => hi1 d s + sph ds ss
  | _, _ => 0
theorem lo1_le {d s : Int} (h : 1 ≤ d) : lo1 d s ≤ 0 := by
  unfold lo1
  split
  · exact Int.mul_nonpos_of_nonneg_of_nonpos (by omega) (by omega)
  · omega
theorem hi1_ge {d s : Int} (h : 1 ≤ d) : 0 ≤ hi1 d s := by
  unfold hi1
  split
  · omega
  · exact Int.mul_nonneg (by omega) (by omega)
theorem spl_le : ∀ {d s : List Int}, (∀ x ∈ d, 1 ≤ x) → spl d s ≤ 0
  | [], _, _ => by simp [spl]
  | _ :: _, [], _ => by simp [spl]
  | d :: ds, s :: ss, h => by
    have h1 := lo1_le (s := s) (h d List.mem_cons_self)
    have h2 := spl_le (d := ds) (s := ss) fun x hx => h x (List.mem_cons_of_mem _ hx)
    simp only [spl]; omega
theorem sph_ge : ∀ {d s : List Int}, (∀ x ∈ d, 1 ≤ x) → 0 ≤ sph d s
  | [], _, _ => by simp [sph]
  | _ :: _, [], _ => by simp [sph]
  | d :: ds, s :: ss, h => by
    have h1 := hi1_ge (s := s) (h d List.mem_cons_self)
    have h2 := sph_ge (d := ds) (s := ss) fun x hx => h x (List.mem_cons_of_mem _ hx)
    simp only [sph]; omega
theorem le_tdiv {x a b : Int} (ha : 0 ≤ a) (hb : 0 < b) : x ≤ a.tdiv b ↔ x * b ≤ a := by
  rw [Int.tdiv_eq_ediv_of_nonneg ha]
  exact Int.le_ediv_iff_mul_le hb
theorem vldL_iff {n : Int} : ∀ {d s : List Int} {lo hi : Int}, d.length = s.length → (∀ x ∈ d, 1 ≤ x) → 0 ≤ lo → hi < n → (vldL n d s lo hi = true ↔ 0 ≤ lo + spl d s ∧ hi + sph d s < n)
  | [], [], lo, hi, _, _, h1, h2 => by simp [vldL, spl, sph]; omega
  | [], _ :: _, lo, hi, hl, _, _, _ => by simp at hl
  | _ :: _, [], lo, hi, hl, _, _, _ => by simp at hl
  | d :: ds, s :: ss, lo, hi, hl, hd, h1, h2 => by
    have hd1 := hd d List.mem_cons_self
    have hds : ∀ x ∈ ds, 1 ≤ x := fun x hx => hd x (List.mem_cons_of_mem _ hx)
    have hl' : ds.length = ss.length := by simpa using hl
    have a1 := spl_le (s := ss) hds
    have a2 := sph_ge (s := ss) hds
    simp only [vldL, spl, sph]
    by_cases e1 : d = 1
    · subst e1
      simp only [beq_self_eq_true, cond_true, lo1, hi1]
      rw [vldL_iff hl' hds h1 h2]
      split <;> simp
    · have : (d == 1) = false := by simpa using e1
      simp only [this, cond_false]
      by_cases hs : s ≥ 0
      · have hn : ¬ s < 0 := by omega
        simp only [hs, decide_true, cond_true, lo1, hi1, hn, if_false]
        by_cases ht : s > (n - 1 - hi).tdiv (d - 1)
        · simp only [ht, decide_true, cond_true]
          have : ¬ s * (d - 1) ≤ n - 1 - hi := fun h => by have := (le_tdiv (by omega) (by omega)).2 h; omega
          rw [Int.mul_comm] at this
          constructor
          · intro h; cases h
          · rintro ⟨_, h⟩; omega
        · simp only [ht, decide_false, cond_false]
          have h3 := (le_tdiv (x := s) (a := n - 1 - hi) (b := d - 1) (by omega) (by omega)).1 (by omega)
          rw [Int.mul_comm] at h3
          have h4 : 0 ≤ (d - 1) * s := Int.mul_nonneg (by omega) hs
          rw [vldL_iff hl' hds h1 (by omega)]
          constructor <;> rintro ⟨_, _⟩ <;> constructor <;> omega
      · have hn : s < 0 := by omega
        simp only [hs, decide_false, cond_false, lo1, hi1, hn, if_true]
        by_cases ht : s < -(lo.tdiv (d - 1))
        · simp only [ht, decide_true, cond_true]
          have : ¬ (-s) * (d - 1) ≤ lo := fun h => by have := (le_tdiv h1 (by omega)).2 h; omega
          rw [Int.neg_mul, Int.mul_comm] at this
          constructor
          · intro h; cases h
          · rintro ⟨h, _⟩; omega
        · simp only [ht, decide_false, cond_false]
          have h3 := (le_tdiv (x := -s) (a := lo) (b := d - 1) h1 (by omega)).1 (by omega)
          rw [Int.neg_mul, Int.mul_comm] at h3
          rw [vldL_iff hl' hds (by omega) h2]
          constructor <;> rintro ⟨_, _⟩ <;> constructor <;> omega
theorem spl_append : ∀ {p q d s : List Int}, p.length = q.length → spl (p ++ d) (q ++ s) = spl p q + spl d s
  | [], [], d, s, _ => by simp [spl]
  | [], _ :: _, _, _, h => by simp at h
  | _ :: _, [], _, _, h => by simp at h
  | a :: p, b :: q, d, s, h => by
    have := spl_append (p := p) (q := q) (d := d) (s := s) (by simpa using h)
    simp only [List.cons_append, spl, this]; omega
theorem sph_append : ∀ {p q d s : List Int}, p.length = q.length → sph (p ++ d) (q ++ s) = sph p q + sph d s
  | [], [], d, s, _ => by simp [sph]
  | [], _ :: _, _, _, h => by simp at h
  | _ :: _, [], _, _, h => by simp at h
  | a :: p, b :: q, d, s, h => by
    have := sph_append (p := p) (q := q) (d := d) (s := s) (by simpa using h)
    simp only [List.cons_append, sph, this]; omega
/-- A view with no dimension of length 0 lies inside. -/
def inside (n o : Int) (d s : List Int) : Prop := 0 ≤ o + spl d s ∧ o + sph d s < n
theorem validB_iff {n o : Int} {d s : List Int} (h : formB d s = true) : validB n o d s = true ↔ ((0 : Int) ∈ d ∨ inside n o d s) := by
  obtain ⟨hd, hl⟩ := form_iff.1 h
  unfold validB
  rw [h]
  by_cases h0 : (0 : Int) ∈ d
  · have := any_zero.2 h0; simp [this, h0]
  · have hz : d.any (· == 0) = false := by cases e : d.any (· == 0) with | false => rfl | true => exact absurd (any_zero.1 e) h0
    have hpos : ∀ x ∈ d, 1 ≤ x := fun x hx => by
      have := hd.2.1 x hx
      by_cases e : x = 0
      · subst e; exact absurd hx h0
      · omega
    have a1 := spl_le (s := s) hpos
    have a2 := sph_ge (s := s) hpos
    simp only [hz, Bool.true_and, Bool.false_or, h0, false_or, inside]
    by_cases ho : o < 0
    · simp only [ho, decide_true, Bool.not_true, Bool.false_and]
      constructor
      · intro h; cases h
      · rintro ⟨_, _⟩; omega
    · by_cases hn : o ≥ n
      · simp only [ho, hn, decide_true, decide_false, Bool.not_true, Bool.not_false, Bool.true_and, Bool.false_and]
        constructor
        · intro h; cases h
        · rintro ⟨_, _⟩; omega
      · simp only [ho, hn, decide_false, Bool.not_false, Bool.true_and]
        rw [vldL_iff hl.symm hpos (by omega) (by omega)]
end Go.Pl

/-
  Each step keeps a view inside.
-/
namespace Go.Pl
open Go.RowKit
set_option linter.unusedVariables false
set_option linter.unusedSimpArgs false

/-- A view is formed, and lies inside; its strides are bounded, unless a dimension is 0. -/
def Inv (n B o : Int) (d s : List Int) : Prop := formB d s = true ∧ ((0 : Int) ∈ d ∨ (inside n o d s ∧ ∀ x ∈ s, -B ≤ x ∧ x ≤ B))
theorem mul_mid {j a x : Int} (h0 : 0 ≤ j) (h1 : j ≤ a) : (x < 0 → a * x ≤ j * x ∧ j * x ≤ 0) ∧ (0 ≤ x → 0 ≤ j * x ∧ j * x ≤ a * x) := by
  constructor
  · intro hx
    have e1 : 0 ≤ (a - j) * -x := Int.mul_nonneg (by omega) (by omega)
    have e2 : 0 ≤ j * -x := Int.mul_nonneg h0 (by omega)
    rw [Int.mul_neg, Int.sub_mul] at e1
    rw [Int.mul_neg] at e2
    omega
  · intro hx
    have e1 : 0 ≤ (a - j) * x := Int.mul_nonneg (by omega) hx
    have e2 : 0 ≤ j * x := Int.mul_nonneg h0 hx
    rw [Int.sub_mul] at e1
    omega
theorem w64_id {x : Int} (h1 : -9223372036854775808 ≤ x) (h2 : x ≤ 9223372036854775807) : w64 x = x := wrap64 h1 h2

theorem stepB_inv {f : Chg} {rk : Nat} {o : Int} {d s : List Int} {k : Int} {r : Int × List Int × List Int} (h : stepB f rk o d s k = (r, 0)) (he : ∀ c e, f c = .inl e → e ≠ 0) :
    formB d s = true ∧ rk ≤ d.length ∧ ∃ o' xs ys, f (caT rk o d s k) = .inr (o', xs, ys) ∧ dimsOK (d.take (d.length - rk) ++ xs) ∧ r = (o', d.take (d.length - rk) ++ xs, s.take (d.length - rk) ++ ys) := by
  cases hf : formB d s with
  | false => rw [stepB_form hf] at h; simp at h
  | true =>
    by_cases hr : d.length < rk
    · rw [stepB_rank hf hr] at h; simp at h
    · refine ⟨rfl, by omega, ?_⟩
      cases hc : f (caT rk o d s k) with
      | inl e => rw [stepB_no hf hr hc (he _ _ hc)] at h; simp at h; exact absurd h.2 (he _ _ hc)
      | inr z =>
        obtain ⟨o', xs, ys⟩ := z
        rw [stepB_ok hf hr hc] at h
        unfold madeB at h
        cases hz : (sizeB (d.take (d.length - rk) ++ xs)).2 != 0 with
        | true =>
          have hz' : (sizeB (d.take (d.length - rk) ++ xs)).2 ≠ 0 := by simpa using hz
          rw [hz] at h
          simp at h
          exact absurd h.2 hz'
        | false =>
          have hz' : (sizeB (d.take (d.length - rk) ++ xs)).2 = 0 := by simpa using hz
          rw [hz] at h
          simp at h
          exact ⟨o', xs, ys, rfl, size_ok.1 hz', by rw [← h]⟩

/-- A list with one at its end. -/
theorem last_one {l : List Int} (h : 1 ≤ l.length) : ∃ p a, l = p ++ [a] ∧ l.length - 1 = p.length ∧ l.getD (l.length - 1) 0 = a ∧ l.take (l.length - 1) = p := by
  rcases List.eq_nil_or_concat l with rfl | ⟨p, c, rfl⟩
  · simp at h
  · exact ⟨p, c, by simp, by simp, by simp [List.getD], by simp⟩

section
variable {n B o : Int} {p q : List Int} {a x : Int}
/-- What is known of a last dimension that is not 0. -/
theorem last_facts (hn : n ≤ 4096) (hi : Inv n B o (p ++ [a]) (q ++ [x])) (hp : ¬ (0 : Int) ∈ p) (ha : a ≠ 0) (hl : p.length = q.length) :
    1 ≤ a ∧ a ≤ 4096 ∧ (-B ≤ x ∧ x ≤ B) ∧ (∀ y ∈ q, -B ≤ y ∧ y ≤ B) ∧ spl p q ≤ 0 ∧ 0 ≤ sph p q ∧ 0 ≤ o + spl p q + lo1 a x ∧ o + sph p q + hi1 a x < n := by
  obtain ⟨hf, h⟩ := hi
  have hd := (form_iff.1 hf).1.2.1
  have ha2 := hd a (by simp)
  rcases h with h | ⟨⟨h1, h2⟩, h3⟩
  · simp at h; rcases h with h | h
    · exact absurd h hp
    · omega
  · have hpos : ∀ y ∈ p, 1 ≤ y := fun y hy => by
      have := hd y (by simp [hy])
      by_cases e : y = 0
      · subst e; exact absurd hy hp
      · omega
    have k1 := spl_le (s := q) hpos
    have k2 := sph_ge (s := q) hpos
    rw [spl_append hl] at h1
    rw [sph_append hl] at h2
    simp only [spl, sph] at h1 h2
    exact ⟨by omega, ha2.2, h3 x (by simp), fun y hy => h3 y (by simp [hy]), k1, k2, by omega, by omega⟩
/-- How a new end is shown to be inside. -/
theorem inv_mk {xs ys : List Int} {o' B' : Int} (hl : p.length = q.length) (hx : xs.length = ys.length) (hd : dimsOK (p ++ xs)) (h : ¬ (0 : Int) ∈ p → ¬ (0 : Int) ∈ xs → (0 ≤ o' + spl p q + spl xs ys ∧ o' + sph p q + sph xs ys < n) ∧ (∀ y ∈ q, -B' ≤ y ∧ y ≤ B') ∧ ∀ y ∈ ys, -B' ≤ y ∧ y ≤ B') :
    Inv n B' o' (p ++ xs) (q ++ ys) := by
  refine ⟨form_iff.2 ⟨hd, by simp [hl, hx]⟩, ?_⟩
  by_cases h0 : (0 : Int) ∈ p ++ xs
  · exact .inl h0
  · simp at h0
    obtain ⟨⟨k1, k2⟩, k3, k4⟩ := h h0.1 h0.2
    refine .inr ⟨⟨by rw [spl_append hl]; omega, by rw [sph_append hl]; omega⟩, fun y hy => ?_⟩
    rcases List.mem_append.1 hy with h | h
    · exact k3 y h
    · exact k4 y h

end
section
variable {n B o k : Int} {p q : List Int} {a x : Int} (hn : n ≤ 4096) (hi : Inv n B o (p ++ [a]) (q ++ [x])) (hl : p.length = q.length)
include hn hi hl

theorem take_in (hB : 0 ≤ B) (h : ¬ (k < 0 ∨ k > a)) (hd : dimsOK (p ++ [k])) : Inv n (2 * B) o (p ++ [k]) (q ++ [x]) := by
  refine inv_mk hl rfl hd fun hp hx => ?_
  simp at hx
  obtain ⟨h1, h2, h3, h4, h5, h6, h7, h8⟩ := last_facts hn hi hp (by omega) hl
  have hm := mul_mid (j := k - 1) (a := a - 1) (x := x) (by omega) (by omega)
  refine ⟨?_, fun y hy => by have := h4 y hy; omega, fun y hy => by simp at hy; subst hy; omega⟩
  simp only [spl, sph, lo1, hi1] at h7 h8 ⊢
  by_cases hx0 : x < 0
  · have := hm.1 hx0; simp only [hx0, if_true] at h7 h8 ⊢; constructor <;> omega
  · have := hm.2 (by omega); simp only [hx0, if_false] at h7 h8 ⊢; constructor <;> omega

theorem drop_in (hB : 0 ≤ B) (h : ¬ (k < 0 ∨ k > a)) (hd : dimsOK (p ++ [w64 (a - k)])) : Inv n (2 * B) (if a > k then w64 (o + w64 (k * x)) else o) (p ++ [w64 (a - k)]) (q ++ [x]) := by
  have ha : 0 ≤ a ∧ a ≤ 4096 := (form_iff.1 hi.1).1.2.1 a (by simp)
  have e0 : w64 (a - k) = a - k := w64_id (by omega) (by omega)
  rw [e0] at hd ⊢
  refine inv_mk hl rfl hd fun hp hx => ?_
  simp at hx
  obtain ⟨h1, h2, h3, h4, h5, h6, h7, h8⟩ := last_facts hn hi hp (by omega) hl
  have hm := mul_mid (j := k) (a := a - 1) (x := x) (by omega) (by omega)
  refine ⟨?_, fun y hy => by have := h4 y hy; omega, fun y hy => by simp at hy; subst hy; omega⟩
  have e1 : (a - k - 1) * x = (a - 1) * x - k * x := by rw [← Int.sub_mul]; congr 1; omega
  simp only [spl, sph, lo1, hi1, e1] at h7 h8 ⊢
  rw [if_pos (by omega)]
  by_cases hx0 : x < 0
  · have := hm.1 hx0
    simp only [hx0, if_true] at h7 h8 ⊢
    rw [w64_id (x := k * x) (by omega) (by omega), w64_id (by omega) (by omega)]
    constructor <;> omega
  · have := hm.2 (by omega)
    simp only [hx0, if_false] at h7 h8 ⊢
    rw [w64_id (x := k * x) (by omega) (by omega), w64_id (by omega) (by omega)]
    constructor <;> omega

theorem rev_in (hB2 : B ≤ 1099511627776) (hd : dimsOK (p ++ [a])) : Inv n (2 * B) (if a > 0 then w64 (o + w64 (w64 (a - 1) * x)) else o) (p ++ [a]) (q ++ [w64 (-x)]) := by
  have ha : 0 ≤ a ∧ a ≤ 4096 := (form_iff.1 hi.1).1.2.1 a (by simp)
  refine inv_mk hl rfl hd fun hp hx => ?_
  simp at hx
  obtain ⟨h1, h2, h3, h4, h5, h6, h7, h8⟩ := last_facts hn hi hp (by omega) hl
  have e0 : w64 (-x) = -x := w64_id (by omega) (by omega)
  have e1 : w64 (a - 1) = a - 1 := w64_id (by omega) (by omega)
  have hm := mul_mid (j := a - 1) (a := a - 1) (x := x) (by omega) (by omega)
  rw [e0, e1, if_pos (by omega)]
  refine ⟨?_, fun y hy => by have := h4 y hy; omega, fun y hy => by simp at hy; subst hy; omega⟩
  have e2 : (a - 1) * -x = -((a - 1) * x) := Int.mul_neg _ _
  simp only [spl, sph, lo1, hi1, e2] at h7 h8 ⊢
  by_cases hx0 : x < 0
  · have := hm.1 hx0
    have hx1 : ¬ -x < 0 := by omega
    simp only [hx0, hx1, if_true, if_false] at h7 h8 ⊢
    rw [w64_id (x := (a - 1) * x) (by omega) (by omega), w64_id (by omega) (by omega)]
    constructor <;> omega
  · have := hm.2 (by omega)
    simp only [hx0, if_false] at h7 h8
    rw [w64_id (x := (a - 1) * x) (by omega) (by omega), w64_id (by omega) (by omega)]
    by_cases hx2 : -x < 0
    · simp only [hx2, if_true]; constructor <;> omega
    · have : x = 0 := by omega
      subst this
      simp at h7 h8 ⊢
      constructor <;> omega

theorem wind_in (hB : 0 ≤ B) (h : ¬ (k < 0 ∨ k > a)) (hd : dimsOK (p ++ [w64 (w64 (a - k) + 1), k])) : Inv n (2 * B) o (p ++ [w64 (w64 (a - k) + 1), k]) (q ++ [x, x]) := by
  have ha : 0 ≤ a ∧ a ≤ 4096 := (form_iff.1 hi.1).1.2.1 a (by simp)
  have e0 : w64 (w64 (a - k) + 1) = a - k + 1 := by rw [w64_id (x := a - k) (by omega) (by omega), w64_id (by omega) (by omega)]
  rw [e0] at hd ⊢
  refine inv_mk hl rfl hd fun hp hx => ?_
  simp at hx
  obtain ⟨h1, h2, h3, h4, h5, h6, h7, h8⟩ := last_facts hn hi hp (by omega) hl
  refine ⟨?_, fun y hy => by have := h4 y hy; omega, fun y hy => by simp at hy; subst hy; omega⟩
  have e1 : (a - k + 1 - 1) * x + (k - 1) * x = (a - 1) * x := by rw [← Int.add_mul]; congr 1; omega
  simp only [spl, sph, lo1, hi1] at h7 h8 ⊢
  by_cases hx0 : x < 0
  · simp only [hx0, if_true] at h7 h8 ⊢; constructor <;> omega
  · simp only [hx0, if_false] at h7 h8 ⊢; constructor <;> omega

theorem chunk_in (hB : 262144 ≤ B) (hB2 : B ≤ 1099511627776) (h : ¬ (k < 1 ∨ k > 64)) (ht : a.tmod k = 0) (hd : dimsOK (p ++ [w64 (a.tdiv k), k])) : Inv n (2 * B) o (p ++ [w64 (a.tdiv k), k]) (q ++ [w64 (k * x), x]) := by
  have ha : 0 ≤ a ∧ a ≤ 4096 := (form_iff.1 hi.1).1.2.1 a (by simp)
  have hb := tdiv_in (a := k) (b := a) ha.1 (by omega)
  have hab : a.tdiv k * k = a := by have := Int.tdiv_mul_add_tmod a k; omega
  rw [w64_id (x := a.tdiv k) (by omega) (by omega)] at hd ⊢
  generalize a.tdiv k = b at *
  refine inv_mk hl rfl hd fun hp hx => ?_
  simp at hx
  have ha0 : a ≠ 0 := by
    rintro rfl
    rcases Int.mul_eq_zero.1 hab with h | h
    · exact hx.1 h.symm
    · omega
  obtain ⟨h1, h2, h3, h4, h5, h6, h7, h8⟩ := last_facts hn hi hp ha0 hl
  have hm := mul_mid (j := 1) (a := a - 1) (x := x) (by omega)
  have hkx : -262144 ≤ k * x ∧ k * x ≤ 262144 ∨ k = 1 := by
    by_cases ha1 : a = 1
    · right
      by_cases hk1 : k = 1
      · exact hk1
      · exfalso
        have hb1 : 1 ≤ b := by omega
        have : b * 2 ≤ b * k := Int.mul_le_mul_of_nonneg_left (by omega) (by omega)
        omega
    · left
      have hx4 : -4096 ≤ x ∧ x ≤ 4096 := by
        have := hm (by omega)
        simp only [lo1, hi1] at h7 h8
        by_cases hx0 : x < 0
        · have := this.1 hx0; simp only [hx0, if_true] at h7 h8; omega
        · have := this.2 (by omega); simp only [hx0, if_false] at h7 h8; omega
      have m1 : k * x ≤ k * 4096 := Int.mul_le_mul_of_nonneg_left hx4.2 (by omega)
      have m2 : k * (-4096) ≤ k * x := Int.mul_le_mul_of_nonneg_left hx4.1 (by omega)
      omega
  have hkb : -B ≤ k * x ∧ k * x ≤ B := by
    rcases hkx with h | rfl
    · omega
    · rw [Int.one_mul]; exact h3
  rw [w64_id (x := k * x) (by omega) (by omega)]
  refine ⟨?_, fun y hy => by have := h4 y hy; omega, fun y hy => by simp at hy; rcases hy with rfl | rfl <;> omega⟩
  have e1 : (b - 1) * (k * x) + (k - 1) * x = (a - 1) * x := by
    rw [← Int.mul_assoc, ← Int.add_mul]; congr 1; rw [Int.sub_mul, hab]; omega
  have hs : k * x < 0 ↔ x < 0 := by
    constructor
    · intro h; by_cases hx0 : x < 0
      · exact hx0
      · have := Int.mul_nonneg (a := k) (b := x) (by omega) (by omega); omega
    · intro h
      have : 0 < k * -x := Int.mul_pos (by omega) (by omega)
      rw [Int.mul_neg] at this; omega
  simp only [spl, sph, lo1, hi1, hs] at h7 h8 ⊢
  by_cases hx0 : x < 0
  · simp only [hx0, if_true] at h7 h8 ⊢; constructor <;> omega
  · simp only [hx0, if_false] at h7 h8 ⊢; constructor <;> omega
end
section
variable {n B o : Int} {p q : List Int} {a b x y : Int} (hi : Inv n B o (p ++ [a, b]) (q ++ [x, y])) (hl : p.length = q.length)
include hi hl
theorem tran_in (hB : 0 ≤ B) (hd : dimsOK (p ++ [b, a])) : Inv n (2 * B) o (p ++ [b, a]) (q ++ [y, x]) := by
  refine inv_mk hl rfl hd fun hp hx => ?_
  simp at hx
  obtain ⟨hf, h⟩ := hi
  rcases h with h | ⟨⟨h1, h2⟩, h3⟩
  · simp at h; rcases h with h | h | h
    · exact absurd h hp
    · omega
    · omega
  · rw [spl_append hl] at h1
    rw [sph_append hl] at h2
    simp only [spl, sph] at h1 h2 ⊢
    refine ⟨by constructor <;> omega, fun z hz => by have := h3 z (by simp [hz]); omega, fun z hz => ?_⟩
    have := h3 z (by simp at hz ⊢; rcases hz with rfl | rfl <;> simp)
    omega
theorem diag_in (hB2 : B ≤ 1099511627776) (hab : a = b) (hd : dimsOK (p ++ [a])) : Inv n (2 * B) o (p ++ [a]) (q ++ [w64 (x + y)]) := by
  subst hab
  refine inv_mk hl rfl hd fun hp hx => ?_
  simp at hx
  obtain ⟨hf, h⟩ := hi
  rcases h with h | ⟨⟨h1, h2⟩, h3⟩
  · simp at h; rcases h with h | h
    · exact absurd h hp
    · omega
  · have ha : 0 ≤ a ∧ a ≤ 4096 := (form_iff.1 hf).1.2.1 a (by simp)
    rw [spl_append hl] at h1
    rw [sph_append hl] at h2
    have hx3 := h3 x (by simp)
    have hy3 := h3 y (by simp)
    rw [w64_id (x := x + y) (by omega) (by omega)]
    have e1 : (a - 1) * (x + y) = (a - 1) * x + (a - 1) * y := Int.mul_add _ _ _
    have sx := mul_mid (j := a - 1) (a := a - 1) (x := x) (by omega) (by omega)
    have sy := mul_mid (j := a - 1) (a := a - 1) (x := y) (by omega) (by omega)
    have sxy := mul_mid (j := a - 1) (a := a - 1) (x := x + y) (by omega) (by omega)
    simp only [spl, sph, lo1, hi1] at h1 h2 ⊢
    refine ⟨?_, fun z hz => by have := h3 z (by simp [hz]); omega, fun z hz => by simp at hz; subst hz; omega⟩
    by_cases hx0 : x < 0
    · have tx := sx.1 hx0
      by_cases hy0 : y < 0
      · have ty := sy.1 hy0
        have : x + y < 0 := by omega
        simp only [hx0, hy0, this, if_true] at h1 h2 ⊢; constructor <;> omega
      · have ty := sy.2 (by omega)
        by_cases hxy : x + y < 0
        · have txy := sxy.1 hxy; simp only [hx0, hy0, hxy, if_true, if_false] at h1 h2 ⊢; constructor <;> omega
        · have txy := sxy.2 (by omega); simp only [hx0, hy0, hxy, if_true, if_false] at h1 h2 ⊢; constructor <;> omega
    · have tx := sx.2 (by omega)
      by_cases hy0 : y < 0
      · have ty := sy.1 hy0
        by_cases hxy : x + y < 0
        · have txy := sxy.1 hxy; simp only [hx0, hy0, hxy, if_true, if_false] at h1 h2 ⊢; constructor <;> omega
        · have txy := sxy.2 (by omega); simp only [hx0, hy0, hxy, if_true, if_false] at h1 h2 ⊢; constructor <;> omega
      · have ty := sy.2 (by omega)
        have : ¬ x + y < 0 := by omega
        simp only [hx0, hy0, this, if_false] at h1 h2 ⊢; constructor <;> omega
end

theorem doB_in {n B o : Int} {d s : List Int} {q k : Int} {o' : Int} {d' s' : List Int} (hn : n ≤ 4096) (hB : 262144 ≤ B) (hB2 : B ≤ 1099511627776) (hi : Inv n B o d s) (h : doB q k o d s = ((o', d', s'), 0)) : Inv n (2 * B) o' d' s' := by
  have hl := (form_iff.1 hi.1).2
  unfold doB chgOf at h
  have one : ∀ (hr : 1 ≤ d.length), ∃ p a r x, d = p ++ [a] ∧ s = r ++ [x] ∧ p.length = r.length ∧ d.take (d.length - 1) = p ∧ s.take (d.length - 1) = r ∧ n0 (caT 1 o d s k) = a ∧ m0 (caT 1 o d s k) = x := by
    intro hr
    obtain ⟨p, a, e1, e2, e3, e4⟩ := last_one hr
    obtain ⟨r, x, f1, f2, f3, f4⟩ := last_one (l := s) (by omega)
    rw [hl] at f2 f3 f4
    exact ⟨p, a, r, x, e1, f1, by omega, e4, f4, by rw [n0_ca o d s k (Nat.le_refl 1) hr, e3], by rw [m0_ca o d s k (Nat.le_refl 1) hr, f3]⟩
  have two : ∀ (hr : 2 ≤ d.length), ∃ p a b r x y, d = p ++ [a, b] ∧ s = r ++ [x, y] ∧ p.length = r.length ∧ d.take (d.length - 2) = p ∧ s.take (d.length - 2) = r ∧ n0 (caT 2 o d s k) = a ∧ n1 (caT 2 o d s k) = b ∧ m0 (caT 2 o d s k) = x ∧ m1 (caT 2 o d s k) = y := by
    intro hr
    obtain ⟨p, a, b, e1, e2, e3, e4, e5⟩ := last_two hr
    obtain ⟨r, x, y, f1, f2, f3, f4, f5⟩ := last_two (l := s) (by omega)
    rw [hl] at f2 f3 f4 f5
    exact ⟨p, a, b, r, x, y, e1, f1, by omega, e5, f5, by rw [n0_ca o d s k (by omega) hr, e4], by rw [n1_ca o d s k hr, e3], by rw [m0_ca o d s k (by omega) hr, f4], by rw [m1_ca o d s k hr, f3]⟩
  split at h
  · obtain ⟨_, hr, o1, xs, ys, hc, hd, e⟩ := stepB_inv h (by intro c e he; simp only [takeC] at he; split at he <;> simp at he; omega)
    obtain ⟨p, a, r, x, rfl, rfl, hpl, e1, e2, e3, e4⟩ := one hr
    rw [e1] at hd e
    rw [e2] at e
    cases e
    simp only [takeC, e3, e4, caT_k, caT_o] at hc
    split at hc
    · cases hc
    · rename_i hk
      cases hc
      exact take_in hn hi hpl (by omega) hk hd
  split at h
  · obtain ⟨_, hr, o1, xs, ys, hc, hd, e⟩ := stepB_inv h (by intro c e he; simp only [dropC] at he; split at he <;> simp at he; omega)
    obtain ⟨p, a, r, x, rfl, rfl, hpl, e1, e2, e3, e4⟩ := one hr
    rw [e1] at hd e
    rw [e2] at e
    cases e
    simp only [dropC, e3, e4, caT_k, caT_o] at hc
    split at hc
    · cases hc
    · rename_i hk
      cases hc
      exact drop_in hn hi hpl (by omega) hk hd
  split at h
  · obtain ⟨_, hr, o1, xs, ys, hc, hd, e⟩ := stepB_inv h (by intro c e he; simp only [revC] at he; cases he)
    obtain ⟨p, a, r, x, rfl, rfl, hpl, e1, e2, e3, e4⟩ := one hr
    rw [e1] at hd e
    rw [e2] at e
    cases e
    simp only [revC, e3, e4, caT_k, caT_o] at hc
    cases hc
    exact rev_in hn hi hpl hB2 hd
  split at h
  · obtain ⟨_, hr, o1, xs, ys, hc, hd, e⟩ := stepB_inv h (by intro c e he; simp only [tranC] at he; cases he)
    obtain ⟨p, a, b, r, x, y, rfl, rfl, hpl, e1, e2, e3, e4, e5, e6⟩ := two hr
    rw [e1] at hd e
    rw [e2] at e
    cases e
    simp only [tranC, e3, e4, e5, e6, caT_k, caT_o] at hc
    cases hc
    exact tran_in hi hpl (by omega) hd
  split at h
  · obtain ⟨_, hr, o1, xs, ys, hc, hd, e⟩ := stepB_inv h (by intro c e he; simp only [diagC] at he; split at he <;> simp at he; omega)
    obtain ⟨p, a, b, r, x, y, rfl, rfl, hpl, e1, e2, e3, e4, e5, e6⟩ := two hr
    rw [e1] at hd e
    rw [e2] at e
    cases e
    simp only [diagC, e3, e4, e5, e6, caT_k, caT_o] at hc
    split at hc
    · cases hc
    · rename_i hk
      cases hc
      exact diag_in hi hpl hB2 (Decidable.of_not_not hk) hd
  split at h
  · obtain ⟨_, hr, o1, xs, ys, hc, hd, e⟩ := stepB_inv h (by intro c e he; simp only [windC] at he; split at he <;> simp at he; omega)
    obtain ⟨p, a, r, x, rfl, rfl, hpl, e1, e2, e3, e4⟩ := one hr
    rw [e1] at hd e
    rw [e2] at e
    cases e
    simp only [windC, e3, e4, caT_k, caT_o] at hc
    split at hc
    · cases hc
    · rename_i hk
      cases hc
      exact wind_in hn hi hpl (by omega) hk hd
  · obtain ⟨_, hr, o1, xs, ys, hc, hd, e⟩ := stepB_inv h (by intro c e he; simp only [chunkC] at he; split at he <;> (try split at he) <;> simp at he <;> omega)
    obtain ⟨p, a, r, x, rfl, rfl, hpl, e1, e2, e3, e4⟩ := one hr
    rw [e1] at hd e
    rw [e2] at e
    cases e
    simp only [chunkC, e3, e4, caT_k, caT_o] at hc
    split at hc
    · cases hc
    · rename_i hk
      split at hc
      · cases hc
      · rename_i hk2
        cases hc
        exact chunk_in hn hi hpl hB hB2 hk (Decidable.of_not_not hk2) hd
end Go.Pl

/-
  Vk: the code, and its runs from head to head (printed by pgen.py).
-/
namespace Go.Pl
open Go.RowKit
set_option linter.unusedVariables false
set_option maxRecDepth 100000

def ic_linside : IC := (.seq (.reg [⟨(some 4), (.mv (.c (.bool false))), 0, none⟩] none) (.seq (.seq (.reg [⟨(some 15), (.call (.c (.fn 20)) []), 0, none⟩, ⟨(some 16), (.un .not (.t 15)), 2, none⟩] none) (.cond (.t 16) (.seq (.reg [⟨(some 4), (.mv (.c (.bool false))), 0, none⟩] none) .ret) .skip)) (.seq (.reg [⟨(some 18), (.mv (.t 0)), 0, none⟩, ⟨(some 19), (.call (.c (.fn 35)) [(.t 18)]), 0, none⟩, ⟨(some 17), (.mv (.t 19)), 2, none⟩, ⟨(some 20), (.extract (.t 17) 0), 2, none⟩, ⟨(some 21), (.extract (.t 17) 1), 2, none⟩, ⟨(some 5), (.mv (.t 20)), 2, none⟩, ⟨(some 6), (.mv (.t 21)), 2, none⟩] none) (.seq (.seq (.reg [⟨(some 22), (.mv (.t 0)), 0, none⟩, ⟨(some 23), (.len 1 (.t 22)), 0, none⟩, ⟨(some 24), (.bin .num .gtr (.t 23) (.c (.int .i64 8))), 0, none⟩, ⟨(some 25), (.mv (.t 24)), 0, none⟩, ⟨(some 26), (.mv (.t 1)), 0, (some (25, false))⟩, ⟨(some 27), (.len 1 (.t 26)), 0, (some (25, false))⟩, ⟨(some 28), (.bin .num .gtr (.t 27) (.c (.int .i64 8))), 0, (some (25, false))⟩, ⟨(some 29), (.pick (.t 25) (.c (.bool true)) (.t 28)), 0, none⟩, ⟨(some 30), (.mv (.t 29)), 0, none⟩, ⟨(some 31), (.mv (.t 6)), 0, (some (30, false))⟩, ⟨(some 32), (.bin .num .neq (.t 31) (.c (.int .i64 0))), 0, (some (30, false))⟩, ⟨(some 33), (.pick (.t 30) (.c (.bool true)) (.t 32)), 0, none⟩, ⟨(some 34), (.mv (.t 33)), 0, none⟩, ⟨(some 35), (.mv (.t 5)), 0, (some (34, false))⟩, ⟨(some 36), (.bin .num .gtr (.t 35) (.c (.int .i64 100))), 0, (some (34, false))⟩, ⟨(some 37), (.pick (.t 34) (.c (.bool true)) (.t 36)), 0, none⟩] none) (.cond (.t 37) (.seq (.reg [⟨(some 4), (.mv (.c (.bool true))), 0, none⟩] none) .ret) .skip)) (.seq (.reg [⟨(some 39), (.mv (.t 0)), 0, none⟩, ⟨(some 40), (.call (.c (.fn 22)) [(.t 39)]), 0, none⟩, ⟨(some 38), (.mv (.t 40)), 2, none⟩, ⟨(some 41), (.extract (.t 38) 0), 2, none⟩, ⟨(some 42), (.extract (.t 38) 1), 2, none⟩, ⟨(some 7), (.alloc (.agg [(.int .i64 0), (.sl 0 true []), (.sl 0 true [])])), 2, none⟩, ⟨none, (.store 3 (.t 7) (.t 41)), 3, none⟩, ⟨(some 8), (.mv (.t 42)), 3, none⟩] none) (.seq (.seq (.reg [⟨(some 43), (.mv (.t 8)), 0, none⟩, ⟨(some 44), (.bin .num .neq (.t 43) (.c (.int .i64 0))), 0, none⟩] none) (.cond (.t 44) (.seq (.reg [⟨(some 4), (.mv (.c (.bool false))), 0, none⟩] none) .ret) .skip)) (.seq (.seq (.reg [⟨(some 45), (.mv (.t 1)), 0, none⟩, ⟨(some 46), (.len 1 (.t 45)), 0, none⟩, ⟨(some 47), (.mv (.c (.int .i64 0))), 0, none⟩] none) (.block 0 (.loop [47, 46, 45, 7, 5] (.seq (.reg [⟨(some 48), (.bin .num .lss (.t 47) (.t 46)), 0, none⟩] none) (.seq (.cond (.t 48) .skip (.exit 0)) (.seq (.block 1 (.seq (.reg [⟨(some 49), (.iaddr 2 (.t 45) (.t 47)), 0, none⟩, ⟨(some 50), (.load true [(.int .i64), (.int .i64)] (.t 49)), 0, none⟩, ⟨(some 10), (.alloc (.agg [(.int .i64 0), (.int .i64 0)])), 0, none⟩, ⟨none, (.store 2 (.t 10) (.t 50)), 1, none⟩] none) (.seq (.seq (.reg [⟨(some 52), (.load true [(.int .i64), (.sl 1), (.sl 1)] (.t 7)), 0, none⟩, ⟨(some 53), (.load true [(.int .i64), (.int .i64)] (.t 10)), 0, none⟩, ⟨(some 54), (.call (.c (.fn 64)) [(.t 52), (.t 53)]), 0, none⟩, ⟨(some 51), (.mv (.t 54)), 2, none⟩, ⟨(some 55), (.extract (.t 51) 0), 2, none⟩, ⟨(some 56), (.extract (.t 51) 1), 2, none⟩, ⟨(some 11), (.alloc (.agg [(.int .i64 0), (.sl 0 true []), (.sl 0 true [])])), 2, none⟩, ⟨none, (.store 3 (.t 11) (.t 55)), 3, none⟩, ⟨(some 12), (.mv (.t 56)), 3, none⟩] none) (.seq (.reg [⟨(some 57), (.mv (.t 12)), 0, none⟩, ⟨(some 58), (.bin .num .eql (.t 57) (.c (.int .i64 0))), 0, none⟩] none) (.cond (.t 58) (.reg [⟨(some 59), (.load true [(.int .i64), (.sl 1), (.sl 1)] (.t 11)), 0, none⟩, ⟨none, (.store 3 (.t 7) (.t 59)), 0, none⟩] none) .skip))) (.seq (.reg [⟨(some 61), (.faddr 1 (.t 7)), 0, none⟩, ⟨(some 62), (.load false [(.sl 1)] (.t 61)), 0, none⟩, ⟨(some 63), (.call (.c (.fn 35)) [(.t 62)]), 0, none⟩, ⟨(some 60), (.mv (.t 63)), 2, none⟩, ⟨(some 64), (.extract (.t 60) 0), 2, none⟩, ⟨(some 65), (.extract (.t 60) 1), 2, none⟩, ⟨(some 13), (.mv (.t 64)), 2, none⟩, ⟨(some 14), (.mv (.t 65)), 2, none⟩] none) (.seq (.reg [⟨(some 66), (.mv (.t 14)), 0, none⟩, ⟨(some 67), (.bin .num .neq (.t 66) (.c (.int .i64 0))), 0, none⟩, ⟨(some 68), (.mv (.t 67)), 0, none⟩, ⟨(some 69), (.mv (.t 5)), 0, (some (68, false))⟩, ⟨(some 70), (.load true [(.int .i64), (.sl 1), (.sl 1)] (.t 7)), 0, (some (68, false))⟩, ⟨(some 71), (.call (.c (.fn 27)) [(.t 69), (.t 70)]), 0, (some (68, false))⟩, ⟨(some 72), (.un .not (.t 71)), 2, (some (68, false))⟩, ⟨(some 73), (.pick (.t 68) (.c (.bool true)) (.t 72)), 2, none⟩, ⟨(some 74), (.mv (.t 73)), 2, none⟩, ⟨(some 75), (.mv (.t 13)), 2, (some (74, false))⟩, ⟨(some 76), (.bin .num .leq (.t 75) (.c (.int .i64 300))), 2, (some (74, false))⟩, ⟨(some 77), (.mv (.t 76)), 2, (some (74, false))⟩, ⟨(some 78), (.mv (.t 5)), 2, (some (77, true))⟩, ⟨(some 79), (.load true [(.int .i64), (.sl 1), (.sl 1)] (.t 7)), 2, (some (77, true))⟩, ⟨(some 80), (.call (.c (.fn 28)) [(.t 78), (.t 79)]), 2, (some (77, true))⟩, ⟨(some 81), (.un .not (.t 80)), 4, (some (77, true))⟩, ⟨(some 82), (.pick (.t 77) (.t 81) (.c (.bool false))), 4, (some (74, false))⟩, ⟨(some 83), (.pick (.t 74) (.c (.bool true)) (.t 82)), 4, none⟩] none) (.cond (.t 83) (.seq (.reg [⟨(some 4), (.mv (.c (.bool false))), 0, none⟩] none) .ret) .skip)))))) (.reg [⟨(some 84), (.bin .num .add (.t 47) (.c (.int .i64 1))), 0, none⟩, ⟨(some 47), (.mv (.t 84)), 0, none⟩] none))))))) (.seq (.reg [⟨(some 4), (.mv (.c (.bool true))), 0, none⟩] none) .ret))))))))
def rs_linside : List IRes := [(.tmp 4)]
abbrev nt_linside : Nat := 85
def T_linside : Tab := tab [(20, .pure pre_nil val_true), (35, .pure pre_size val_size), (22, .pure pre_size val_tof), (64, .pure pre_do2 val_tdo), (27, .pure pre_valid val_tvalid), (28, .pure pre_valid val_tvalid)]
theorem linside_s {r : PV} (d : List Int) (t : Bool) (l : List (Int × Int)) (u : Bool) (h : (pre_size [(.sl 1 t (nums d))]) = true ∧ (if (decide ((↑(nums d).length : Int) > 8)) = true then (.bool true) = r else (if (decide ((↑(stps l).length : Int) > 8)) = true then (.bool true) = r else (if ((sizeB (List.map PV.asInt (nums d))).snd != 0) = true then (.bool true) = r else (if (decide ((sizeB (List.map PV.asInt (nums d))).fst > 100)) = true then (.bool true) = r else ((pre_size [(.sl 1 t (nums d))]) = true ∧ (if ((ofV [PV.sl 1 t (nums d)]).snd != 0) = true then (.bool false) = r else (At T_linside 0 (fun st => fin st rs_linside = some r) ic_linside 0 85 [(5, (.pv (.int .i64 ((sizeB (List.map PV.asInt (nums d))).fst)))), (7, (.ptr 0 0)), (45, (.pv (.sl 2 u (stps l)))), (46, (.pv (.int .i64 (↑(stps l).length : Int)))), (47, (.pv (.int .i64 0)))] [(.obj (.box [(.pv (.int .i64 ((ofV [PV.sl 1 t (nums d)]).fst.fst))), (.pv (.sl 1 false (nums (ofV [PV.sl 1 t (nums d)]).fst.snd.fst))), (.pv (.sl 1 false (nums (ofV [PV.sl 1 t (nums d)]).fst.snd.snd)))]))])))))))) : Gets T_linside 0 (fun st => fin st rs_linside = some r) ic_linside [] (st0 85 [.sl 1 t (nums d), .sl 2 u (stps l)]) := Gets.w (.lit (.lit (.req (.lit (.ask (.lit (.lit (.lit (.lit (.lit (.lit (.lit (.lit (.lit (.lit (.nil))))))))))) (.lit (.lit (.lit (.lit (.ask (.lit (.lit (.lit (.lit (.lit (.lit (.nil))))))) (.lit (.lit (.lit (.ask (.lit (.lit (.lit (.nil)))) (.lit (.lit (.lit (.ask (.nil) (.req (.lit (.ask (.nil) (.nil)))))))))))))))))))))) h (by kernel_rfl)
theorem linside_h0 {r : PV} (d : List Int) (t : Bool) (l : List (Int × Int)) (u : Bool) (n i o : Int) (dd ss : List Int) (h : if (decide (i < (↑(stps l).length : Int))) = true then (decide (0 ≤ i) && decide (i.toNat < (stps l).length) && 2 == 2) = true ∧ (decide (0 + [Sh.int .i64, Sh.int .i64].length ≤ ((stps l).getD i.toNat default).cells.length) && shFit ((stps l).getD i.toNat default).cells 0 [Sh.int .i64, Sh.int .i64]) = true ∧ (pre_do2 [(.agg [(.int .i64 o), (.sl 1 false (nums dd)), (.sl 1 false (nums ss))]), (.agg [(.int .i64 ((((stps l).getD i.toNat default).cells.getD 0 default).asInt)), (.int .i64 ((((stps l).getD i.toNat default).cells.getD (0 + 1) default).asInt))])]) = true ∧ (if ((doV [PV.agg [PV.int .i64 o, PV.sl 1 false (nums dd), PV.sl 1 false (nums ss)], PV.agg [(Sh.int .i64).co (((stps l).getD i.toNat default).cells.getD 0 default), (Sh.int .i64).co (((stps l).getD i.toNat default).cells.getD (0 + 1) default)]]).snd == 0) = true then (pre_size [(.sl 1 false (nums (doV [PV.agg [PV.int .i64 o, PV.sl 1 false (nums dd), PV.sl 1 false (nums ss)], PV.agg [(Sh.int .i64).co (((stps l).getD i.toNat default).cells.getD 0 default), (Sh.int .i64).co (((stps l).getD i.toNat default).cells.getD (0 + 1) default)]]).fst.snd.fst))]) = true ∧ (if ((sizeB (List.map PV.asInt (nums (doV [PV.agg [PV.int .i64 o, PV.sl 1 false (nums dd), PV.sl 1 false (nums ss)], PV.agg [(Sh.int .i64).co (((stps l).getD i.toNat default).cells.getD 0 default), (Sh.int .i64).co (((stps l).getD i.toNat default).cells.getD (0 + 1) default)]]).fst.snd.fst))).snd != 0) = true then (.bool false) = r else ((pre_valid [(.int .i64 n), (.agg [(.int .i64 ((doV [PV.agg [PV.int .i64 o, PV.sl 1 false (nums dd), PV.sl 1 false (nums ss)], PV.agg [(Sh.int .i64).co (((stps l).getD i.toNat default).cells.getD 0 default), (Sh.int .i64).co (((stps l).getD i.toNat default).cells.getD (0 + 1) default)]]).fst.fst)), (.sl 1 false (nums (doV [PV.agg [PV.int .i64 o, PV.sl 1 false (nums dd), PV.sl 1 false (nums ss)], PV.agg [(Sh.int .i64).co (((stps l).getD i.toNat default).cells.getD 0 default), (Sh.int .i64).co (((stps l).getD i.toNat default).cells.getD (0 + 1) default)]]).fst.snd.fst)), (.sl 1 false (nums (doV [PV.agg [PV.int .i64 o, PV.sl 1 false (nums dd), PV.sl 1 false (nums ss)], PV.agg [(Sh.int .i64).co (((stps l).getD i.toNat default).cells.getD 0 default), (Sh.int .i64).co (((stps l).getD i.toNat default).cells.getD (0 + 1) default)]]).fst.snd.snd))])]) = true ∧ (if (!validV [PV.int .i64 n, PV.agg [PV.int .i64 (doV [PV.agg [PV.int .i64 o, PV.sl 1 false (nums dd), PV.sl 1 false (nums ss)], PV.agg [(Sh.int .i64).co (((stps l).getD i.toNat default).cells.getD 0 default), (Sh.int .i64).co (((stps l).getD i.toNat default).cells.getD (0 + 1) default)]]).fst.fst, PV.sl 1 false (nums (doV [PV.agg [PV.int .i64 o, PV.sl 1 false (nums dd), PV.sl 1 false (nums ss)], PV.agg [(Sh.int .i64).co (((stps l).getD i.toNat default).cells.getD 0 default), (Sh.int .i64).co (((stps l).getD i.toNat default).cells.getD (0 + 1) default)]]).fst.snd.fst), PV.sl 1 false (nums (doV [PV.agg [PV.int .i64 o, PV.sl 1 false (nums dd), PV.sl 1 false (nums ss)], PV.agg [(Sh.int .i64).co (((stps l).getD i.toNat default).cells.getD 0 default), (Sh.int .i64).co (((stps l).getD i.toNat default).cells.getD (0 + 1) default)]]).fst.snd.snd)]]) = true then (.bool false) = r else (if (decide ((sizeB (List.map PV.asInt (nums (doV [PV.agg [PV.int .i64 o, PV.sl 1 false (nums dd), PV.sl 1 false (nums ss)], PV.agg [(Sh.int .i64).co (((stps l).getD i.toNat default).cells.getD 0 default), (Sh.int .i64).co (((stps l).getD i.toNat default).cells.getD (0 + 1) default)]]).fst.snd.fst))).fst ≤ 300)) = true then (pre_valid [(.int .i64 n), (.agg [(.int .i64 ((doV [PV.agg [PV.int .i64 o, PV.sl 1 false (nums dd), PV.sl 1 false (nums ss)], PV.agg [(Sh.int .i64).co (((stps l).getD i.toNat default).cells.getD 0 default), (Sh.int .i64).co (((stps l).getD i.toNat default).cells.getD (0 + 1) default)]]).fst.fst)), (.sl 1 false (nums (doV [PV.agg [PV.int .i64 o, PV.sl 1 false (nums dd), PV.sl 1 false (nums ss)], PV.agg [(Sh.int .i64).co (((stps l).getD i.toNat default).cells.getD 0 default), (Sh.int .i64).co (((stps l).getD i.toNat default).cells.getD (0 + 1) default)]]).fst.snd.fst)), (.sl 1 false (nums (doV [PV.agg [PV.int .i64 o, PV.sl 1 false (nums dd), PV.sl 1 false (nums ss)], PV.agg [(Sh.int .i64).co (((stps l).getD i.toNat default).cells.getD 0 default), (Sh.int .i64).co (((stps l).getD i.toNat default).cells.getD (0 + 1) default)]]).fst.snd.snd))])]) = true ∧ (if (!validV [PV.int .i64 n, PV.agg [PV.int .i64 (doV [PV.agg [PV.int .i64 o, PV.sl 1 false (nums dd), PV.sl 1 false (nums ss)], PV.agg [(Sh.int .i64).co (((stps l).getD i.toNat default).cells.getD 0 default), (Sh.int .i64).co (((stps l).getD i.toNat default).cells.getD (0 + 1) default)]]).fst.fst, PV.sl 1 false (nums (doV [PV.agg [PV.int .i64 o, PV.sl 1 false (nums dd), PV.sl 1 false (nums ss)], PV.agg [(Sh.int .i64).co (((stps l).getD i.toNat default).cells.getD 0 default), (Sh.int .i64).co (((stps l).getD i.toNat default).cells.getD (0 + 1) default)]]).fst.snd.fst), PV.sl 1 false (nums (doV [PV.agg [PV.int .i64 o, PV.sl 1 false (nums dd), PV.sl 1 false (nums ss)], PV.agg [(Sh.int .i64).co (((stps l).getD i.toNat default).cells.getD 0 default), (Sh.int .i64).co (((stps l).getD i.toNat default).cells.getD (0 + 1) default)]]).fst.snd.snd)]]) = true then (.bool false) = r else (At T_linside 0 (fun st => fin st rs_linside = some r) ic_linside 0 85 [(5, (.pv (.int .i64 n))), (7, (.ptr 0 0)), (45, (.pv (.sl 2 u (stps l)))), (46, (.pv (.int .i64 (↑(stps l).length : Int)))), (47, (.pv (.int .i64 (IntKind.i64.wrap (i + 1)))))] [(.obj (.box [(.pv (.int .i64 ((doV [PV.agg [PV.int .i64 o, PV.sl 1 false (nums dd), PV.sl 1 false (nums ss)], PV.agg [(Sh.int .i64).co (((stps l).getD i.toNat default).cells.getD 0 default), (Sh.int .i64).co (((stps l).getD i.toNat default).cells.getD (0 + 1) default)]]).fst.fst))), (.pv (.sl 1 false (nums (doV [PV.agg [PV.int .i64 o, PV.sl 1 false (nums dd), PV.sl 1 false (nums ss)], PV.agg [(Sh.int .i64).co (((stps l).getD i.toNat default).cells.getD 0 default), (Sh.int .i64).co (((stps l).getD i.toNat default).cells.getD (0 + 1) default)]]).fst.snd.fst))), (.pv (.sl 1 false (nums (doV [PV.agg [PV.int .i64 o, PV.sl 1 false (nums dd), PV.sl 1 false (nums ss)], PV.agg [(Sh.int .i64).co (((stps l).getD i.toNat default).cells.getD 0 default), (Sh.int .i64).co (((stps l).getD i.toNat default).cells.getD (0 + 1) default)]]).fst.snd.snd)))]))])) else (At T_linside 0 (fun st => fin st rs_linside = some r) ic_linside 0 85 [(5, (.pv (.int .i64 n))), (7, (.ptr 0 0)), (45, (.pv (.sl 2 u (stps l)))), (46, (.pv (.int .i64 (↑(stps l).length : Int)))), (47, (.pv (.int .i64 (IntKind.i64.wrap (i + 1)))))] [(.obj (.box [(.pv (.int .i64 ((doV [PV.agg [PV.int .i64 o, PV.sl 1 false (nums dd), PV.sl 1 false (nums ss)], PV.agg [(Sh.int .i64).co (((stps l).getD i.toNat default).cells.getD 0 default), (Sh.int .i64).co (((stps l).getD i.toNat default).cells.getD (0 + 1) default)]]).fst.fst))), (.pv (.sl 1 false (nums (doV [PV.agg [PV.int .i64 o, PV.sl 1 false (nums dd), PV.sl 1 false (nums ss)], PV.agg [(Sh.int .i64).co (((stps l).getD i.toNat default).cells.getD 0 default), (Sh.int .i64).co (((stps l).getD i.toNat default).cells.getD (0 + 1) default)]]).fst.snd.fst))), (.pv (.sl 1 false (nums (doV [PV.agg [PV.int .i64 o, PV.sl 1 false (nums dd), PV.sl 1 false (nums ss)], PV.agg [(Sh.int .i64).co (((stps l).getD i.toNat default).cells.getD 0 default), (Sh.int .i64).co (((stps l).getD i.toNat default).cells.getD (0 + 1) default)]]).fst.snd.snd)))]))]))))) else ((pre_size [(.sl 1 false (nums dd))]) = true ∧ (if ((sizeB (List.map PV.asInt (nums dd))).snd != 0) = true then (.bool false) = r else ((pre_valid [(.int .i64 n), (.agg [(.int .i64 o), (.sl 1 false (nums dd)), (.sl 1 false (nums ss))])]) = true ∧ (if (!validV [PV.int .i64 n, PV.agg [PV.int .i64 o, PV.sl 1 false (nums dd), PV.sl 1 false (nums ss)]]) = true then (.bool false) = r else (if (decide ((sizeB (List.map PV.asInt (nums dd))).fst ≤ 300)) = true then (pre_valid [(.int .i64 n), (.agg [(.int .i64 o), (.sl 1 false (nums dd)), (.sl 1 false (nums ss))])]) = true ∧ (if (!validV [PV.int .i64 n, PV.agg [PV.int .i64 o, PV.sl 1 false (nums dd), PV.sl 1 false (nums ss)]]) = true then (.bool false) = r else (At T_linside 0 (fun st => fin st rs_linside = some r) ic_linside 0 85 [(5, (.pv (.int .i64 n))), (7, (.ptr 0 0)), (45, (.pv (.sl 2 u (stps l)))), (46, (.pv (.int .i64 (↑(stps l).length : Int)))), (47, (.pv (.int .i64 (IntKind.i64.wrap (i + 1)))))] [(.obj (.box [(.pv (.int .i64 o)), (.pv (.sl 1 false (nums dd))), (.pv (.sl 1 false (nums ss)))]))])) else (At T_linside 0 (fun st => fin st rs_linside = some r) ic_linside 0 85 [(5, (.pv (.int .i64 n))), (7, (.ptr 0 0)), (45, (.pv (.sl 2 u (stps l)))), (46, (.pv (.int .i64 (↑(stps l).length : Int)))), (47, (.pv (.int .i64 (IntKind.i64.wrap (i + 1)))))] [(.obj (.box [(.pv (.int .i64 o)), (.pv (.sl 1 false (nums dd))), (.pv (.sl 1 false (nums ss)))]))]))))))) else ((.bool true) = r)) : At T_linside 0 (fun st => fin st rs_linside = some r) ic_linside 0 85 [(5, .pv (.int .i64 n)), (7, .ptr 0 0), (45, (.pv (.sl 2 u (stps l)))), (46, (.pv (.int .i64 (stps l).length))), (47, .pv (.int .i64 i))] [.obj (.box [.pv (.int .i64 o), .pv (.sl 1 false (nums dd)), .pv (.sl 1 false (nums ss))])] := At.w (.lit (.ask (.req (.req (.req (.lit (.ask (.req (.lit (.ask (.lit (.lit (.lit (.lit (.lit (.lit (.lit (.lit (.lit (.lit (.nil))))))))))) (.lit (.lit (.req (.lit (.lit (.ask (.lit (.lit (.lit (.lit (.lit (.nil)))))) (.lit (.lit (.lit (.ask (.lit (.lit (.req (.lit (.lit (.lit (.lit (.ask (.nil) (.lit (.nil)))))))))) (.lit (.lit (.lit (.lit (.lit (.lit (.lit (.lit (.nil)))))))))))))))))))))) (.req (.lit (.ask (.lit (.lit (.lit (.lit (.lit (.lit (.lit (.lit (.lit (.lit (.nil))))))))))) (.lit (.lit (.req (.lit (.lit (.ask (.lit (.lit (.lit (.lit (.lit (.nil)))))) (.lit (.lit (.lit (.ask (.lit (.lit (.req (.lit (.lit (.lit (.lit (.ask (.nil) (.lit (.nil)))))))))) (.lit (.lit (.lit (.lit (.lit (.lit (.lit (.lit (.nil))))))))))))))))))))))))))) (.nil))) h (by kernel_rfl)

end Go.Pl

/-
  The law of views that stay inside, by its run.
-/
namespace Go.Pl
open Go.RowKit
set_option linter.unusedVariables false
set_option linter.unusedSimpArgs false

theorem prodI_le {x : Int} {l : List Int} (hx : 1 ≤ x) (hl : ∀ y ∈ l, 1 ≤ y) : prodI l ≤ x * prodI l := by
  have h := prodI_pos hl
  have : 1 * prodI l ≤ x * prodI l := Int.mul_le_mul_of_nonneg_right hx (by omega)
  omega
theorem sufP_eq : ∀ {l : List Int}, (∀ x ∈ l, 1 ≤ x) → prodI l ≤ 4096 → sufP l = prodI l
  | [], _, _ => rfl
  | x :: l, h, hp => by
    have hx := h x List.mem_cons_self
    have hl : ∀ y ∈ l, 1 ≤ y := fun y hy => h y (List.mem_cons_of_mem _ hy)
    have h1 := prodI_le hx hl
    have h2 := prodI_pos hl
    simp only [prodI] at hp ⊢
    rw [sufP, sufP_eq hl (by omega), Int.mul_comm, w64_id (by omega) (by omega)]
theorem str_spans : ∀ {l : List Int}, (∀ x ∈ l, 1 ≤ x) → prodI l ≤ 4096 → spl l (strd l) = 0 ∧ sph l (strd l) = prodI l - 1 ∧ ∀ y ∈ strd l, 1 ≤ y ∧ y ≤ 4096
  | [], _, _ => ⟨rfl, rfl, fun y hy => by simp [strd] at hy⟩
  | x :: l, h, hp => by
    have hx := h x List.mem_cons_self
    have hl : ∀ y ∈ l, 1 ≤ y := fun y hy => h y (List.mem_cons_of_mem _ hy)
    have h1 := prodI_le hx hl
    have h2 := prodI_pos hl
    simp only [prodI] at hp
    obtain ⟨k1, k2, k3⟩ := str_spans hl (by omega)
    have e := sufP_eq hl (by omega)
    have hn : ¬ prodI l < 0 := by omega
    refine ⟨by simp only [strd, spl, k1, e, lo1, hn, if_false]; rfl, ?_, fun y hy => ?_⟩
    · simp only [strd, sph, k2, e, hi1, hn, if_false, prodI, Int.sub_mul]; omega
    · simp only [strd, List.mem_cons] at hy
      rcases hy with rfl | hy
      · rw [e]; omega
      · exact k3 y hy
theorem prodB_val : ∀ {l : List Int} {p n : Int}, prodB p l = some n → n = p * prodI l
  | [], p, n, h => by simp [prodB] at h; simp [prodI, h]
  | x :: l, p, n, h => by
    simp only [prodB] at h
    by_cases hb : 4096 < p * x
    · simp [hb] at h
    · simp only [hb, decide_false, cond_false] at h
      rw [prodB_val h, prodI, Int.mul_assoc]
theorem size_val {l : List Int} (h : dimsOK l) (h0 : ¬ (0 : Int) ∈ l) : (sizeB l).1 = prodI l := by
  have hz := size_ok.2 h
  have h6 : ¬ 6 < l.length := by have := h.1; omega
  have ha := all_dim.2 h.2.1
  have hz0 : l.any (· == 0) = false := by cases e : l.any (· == 0) with | false => rfl | true => exact absurd (any_zero.1 e) h0
  unfold sizeB at hz ⊢
  simp only [h6, ha, hz0, decide_false, cond_false, cond_true] at hz ⊢
  cases hp : prodB 1 l with
  | none => rw [hp] at hz; simp at hz
  | some n => have := prodB_val hp; simp only; omega
theorem inv_of {d : List Int} (h : dimsOK d) : Inv (sizeB d).1 262144 0 d (strd d) := by
  refine ⟨form_iff.2 ⟨h, by simp⟩, ?_⟩
  by_cases h0 : (0 : Int) ∈ d
  · exact .inl h0
  · have hpos : ∀ x ∈ d, 1 ≤ x := fun x hx => by
      have := h.2.1 x hx
      by_cases e : x = 0
      · subst e; exact absurd hx h0
      · omega
    have hp : prodI d ≤ 4096 := by rcases h.2.2 with h' | h'; exact absurd h' h0; exact h'
    obtain ⟨k1, k2, k3⟩ := str_spans hpos hp
    refine .inr ⟨?_, fun y hy => by have := k3 y hy; omega⟩
    rw [size_val h h0]
    exact ⟨by omega, by omega⟩
theorem Inv.mono {n B B' o : Int} {d s : List Int} (h : Inv n B o d s) (hb : B ≤ B') : Inv n B' o d s := by
  refine ⟨h.1, ?_⟩
  rcases h.2 with k | ⟨k1, k2⟩
  · exact .inl k
  · exact .inr ⟨k1, fun x hx => by have := k2 x hx; omega⟩
theorem Inv.valid {n B o : Int} {d s : List Int} (h : Inv n B o d s) : validB n o d s = true := (validB_iff h.1).2 (h.2.imp id (·.1))

theorem linside_loop (d : List Int) (t : Bool) (l : List (Int × Int)) (u : Bool) (h8 : l.length ≤ 8) (n : Int) (hn : n ≤ 100) : ∀ (m k : Nat) (o : Int) (dd ss : List Int), m + k = l.length → Inv n (262144 * 2 ^ k) o dd ss →
    At T_linside 0 (fun st => fin st rs_linside = some (.bool true)) ic_linside 0 nt_linside [(5, .pv (.int .i64 n)), (7, .ptr 0 0), (45, (.pv (.sl 2 u (stps l)))), (46, (.pv (.int .i64 (stps l).length))), (47, .pv (.int .i64 k))] [.obj (.box [.pv (.int .i64 o), .pv (.sl 1 false (nums dd)), .pv (.sl 1 false (nums ss))])] := by
  intro m
  induction m with
  | zero =>
    intro k o dd ss hk hi
    refine linside_h0 d t l u n k o dd ss ?_
    rw [if_neg (by simp; omega)]
  | succ m ih =>
    intro k o dd ss hk hi
    have hlt : k < l.length := by omega
    have hpow : (2 : Int) ^ k ≤ 256 ∧ 1 ≤ (2 : Int) ^ k := by
      have : k ≤ 7 := by omega
      have hk' : k = 0 ∨ k = 1 ∨ k = 2 ∨ k = 3 ∨ k = 4 ∨ k = 5 ∨ k = 6 ∨ k = 7 := by omega
      rcases hk' with rfl | rfl | rfl | rfl | rfl | rfl | rfl | rfl <;> decide
    have hpow2 : (2 : Int) ^ (k + 1) = 2 * 2 ^ k := by rw [Int.pow_succ, Int.mul_comm]
    have hv : ∀ {o : Int} {dd ss : List Int} {B : Int}, Inv n B o dd ss → pre_view (.agg [.int .i64 o, .sl 1 false (nums dd), .sl 1 false (nums ss)]) = true := fun h => by
      obtain ⟨h1, h2⟩ := form_iff.1 h.1
      have := h1.1
      exact pre_view_of _ _ _ false false (by omega) (by omega)
    have fin : ∀ {o : Int} {dd ss : List Int}, Inv n (262144 * 2 ^ (k + 1)) o dd ss → pre_valid [.int .i64 n, .agg [.int .i64 o, .sl 1 false (nums dd), .sl 1 false (nums ss)]] = true ∧ (sizeB dd).2 = 0 ∧ validB n o dd ss = true := fun h =>
      ⟨by simp only [pre_valid, hv h, Bool.and_true, decide_eq_true_eq]; omega, size_ok.2 (form_iff.1 h.1).1, h.valid⟩
    have hle : Inv n (262144 * 2 ^ (k + 1)) o dd ss := hi.mono (by rw [hpow2]; omega)
    refine linside_h0 d t l u n k o dd ss ?_
    rw [if_pos (by simp; omega)]
    have e : (stps l).getD (k : Int).toNat default = stp l[k] := by rw [Int.toNat_natCast]; exact stps_at hlt
    simp only [e, stp, PV.cells, List.getD_cons_zero, List.getD_cons_succ, PV.asInt, Sh.co, doV_v, Nat.zero_add, asInt_nums, validV_v]
    refine ⟨by simp; omega, by rfl, hv hi, ?_⟩
    obtain ⟨⟨⟨o', d', s'⟩, er⟩, hr⟩ : ∃ r, r = doB l[k].1 l[k].2 o dd ss := ⟨_, rfl⟩
    rw [← hr]
    by_cases he : er = 0
    · subst he
      have hi' := doB_in (by omega) (by omega) (by omega) hi hr.symm
      rw [show 2 * (262144 * (2 : Int) ^ k) = 262144 * 2 ^ (k + 1) by rw [hpow2]; omega] at hi'
      obtain ⟨f1, f2, f3⟩ := fin hi'
      have hnext := ih (k + 1) o' d' s' (by omega) hi'
      rw [if_pos (by simp)]
      refine ⟨by simp [pre_size], ?_⟩
      rw [if_neg (by simp [f2])]
      refine ⟨f1, ?_⟩
      rw [if_neg (by simp [f3])]
      rw [next (by omega)]
      split
      · exact ⟨f1, by first | (rw [if_neg (by simp [f3])]; exact hnext) | (rw [if_pos (by simp [f3])]; exact hnext)⟩
      · exact hnext
    · obtain ⟨f1, f2, f3⟩ := fin hle
      have hnext := ih (k + 1) o dd ss (by omega) hle
      rw [if_neg (by simpa using he)]
      refine ⟨by simp [pre_size], ?_⟩
      rw [if_neg (by simp [f2])]
      refine ⟨f1, ?_⟩
      rw [if_neg (by simp [f3])]
      rw [next (by omega)]
      split
      · exact ⟨f1, by first | (rw [if_neg (by simp [f3])]; exact hnext) | (rw [if_pos (by simp [f3])]; exact hnext)⟩
      · exact hnext

def PV.isStp : PV → Bool
  | .agg [.int .i64 _, .int .i64 _] => true
  | _ => false
theorem stps_of {xs : List PV} (h : xs.all PV.isStp = true) : ∃ l, xs = stps l := by
  induction xs with
  | nil => exact ⟨[], rfl⟩
  | cons x xs ih =>
    simp only [List.all_cons, Bool.and_eq_true] at h
    obtain ⟨l, rfl⟩ := ih h.2
    have h1 := h.1
    unfold PV.isStp at h1
    split at h1
    · rename_i a b; exact ⟨(a, b) :: l, rfl⟩
    · cases h1
def pre_linside : List PV → Bool
  | [.sl 1 _ xs, .sl 2 _ ys] => xs.all PV.isNum && ys.all PV.isStp
  | _ => false
theorem linside_run : ∀ ps, pre_linside ps = true → Gets T_linside 0 (fun st => fin st rs_linside = some (val_true ps)) ic_linside [] (st0 nt_linside ps) := by
  intro ps hp
  unfold pre_linside at hp
  split at hp
  · rename_i t xs u ys
    simp only [Bool.and_eq_true] at hp
    obtain ⟨d, rfl⟩ := nums_of hp.1
    obtain ⟨l, rfl⟩ := stps_of hp.2
    refine linside_s d t l u ⟨by simp [pre_size], ?_⟩
    by_cases h1 : d.length > 8
    · rw [if_pos (by simp; omega)]; rfl
    · rw [if_neg (by simp; omega)]
      by_cases h2 : l.length > 8
      · rw [if_pos (by simp; omega)]; rfl
      · rw [if_neg (by simp; omega)]
        rw [asInt_nums]
        by_cases hz : (sizeB d).2 = 0
        · rw [if_neg (by simp [hz])]
          by_cases hb : (sizeB d).1 > 100
          · rw [if_pos (by simpa using hb)]; rfl
          · rw [if_neg (by simpa using hb)]
            refine ⟨by simp [pre_size], ?_⟩
            have ho : ofB d = ((0, d, strd d), 0) := by simp [ofB, hz]
            simp only [ofV_v, ho]
            rw [if_neg (by simp)]
            exact linside_loop d t l u (by omega) _ (by omega) l.length 0 0 d (strd d) (by omega) (by simpa using inv_of (size_ok.1 hz))
        · rw [if_pos (by simp [hz])]; rfl
  · cases hp
end Go.Pl

