/-
  Texts of mine that belong together (packed by pack.py), for every input: GVi, QVp, QVq, GVj, QVr.
-/
import Derived.Test.YtpdpkmihgelmoaaKA2
import Derived.Test.YtpdpkmihgelmoaaKA5
import Derived.KernelRfl
/-
  Vi: the code, and its runs from head to head (printed by pgen.py).
-/
namespace Go.Pl
open Go.RowKit
set_option linter.unusedVariables false
set_option maxRecDepth 100000


def pre_nil : List PV → Bool := fun ps => ps.isEmpty
def val_true : List PV → PV := fun _ => .bool true
def ic_awake : IC := (.seq (.reg [⟨(some 0), (.mv (.c (.bool false))), 0, none⟩] none) (.seq (.reg [⟨(some 10), (.bslice 3 1 2 (.int .i64 0) [(0, (.c (.int .i64 2))), (1, (.c (.int .i64 3)))]), 0, none⟩, ⟨(some 11), (.call (.c (.fn 22)) [(.t 10)]), 1, none⟩, ⟨(some 9), (.mv (.t 11)), 3, none⟩, ⟨(some 12), (.extract (.t 9) 0), 3, none⟩, ⟨(some 13), (.extract (.t 9) 1), 3, none⟩, ⟨(some 1), (.alloc (.agg [(.int .i64 0), (.sl 0 true []), (.sl 0 true [])])), 3, none⟩, ⟨none, (.store 3 (.t 1) (.t 12)), 4, none⟩, ⟨(some 2), (.mv (.t 13)), 4, none⟩] none) (.seq (.reg [⟨(some 15), (.load true [(.int .i64), (.sl 1), (.sl 1)] (.t 1)), 0, none⟩, ⟨(some 16), (.call (.c (.fn 37)) [(.t 15)]), 0, none⟩, ⟨(some 14), (.mv (.t 16)), 2, none⟩, ⟨(some 17), (.extract (.t 14) 0), 2, none⟩, ⟨(some 18), (.extract (.t 14) 1), 2, none⟩, ⟨(some 3), (.alloc (.agg [(.int .i64 0), (.sl 0 true []), (.sl 0 true [])])), 2, none⟩, ⟨none, (.store 3 (.t 3) (.t 17)), 3, none⟩, ⟨(some 4), (.mv (.t 18)), 3, none⟩] none) (.seq (.reg [⟨(some 20), (.bslice 3 1 1 (.int .i64 0) [(0, (.c (.int .i64 4)))]), 0, none⟩, ⟨(some 21), (.call (.c (.fn 22)) [(.t 20)]), 1, none⟩, ⟨(some 19), (.mv (.t 21)), 3, none⟩, ⟨(some 22), (.extract (.t 19) 0), 3, none⟩, ⟨(some 23), (.extract (.t 19) 1), 3, none⟩, ⟨(some 5), (.alloc (.agg [(.int .i64 0), (.sl 0 true []), (.sl 0 true [])])), 3, none⟩, ⟨none, (.store 3 (.t 5) (.t 22)), 4, none⟩, ⟨(some 6), (.mv (.t 23)), 4, none⟩] none) (.seq (.reg [⟨(some 25), (.load true [(.int .i64), (.sl 1), (.sl 1)] (.t 5)), 0, none⟩, ⟨(some 26), (.call (.c (.fn 60)) [(.t 25), (.c (.int .i64 2))]), 0, none⟩, ⟨(some 24), (.mv (.t 26)), 2, none⟩, ⟨(some 27), (.extract (.t 24) 0), 2, none⟩, ⟨(some 28), (.extract (.t 24) 1), 2, none⟩, ⟨(some 7), (.alloc (.agg [(.int .i64 0), (.sl 0 true []), (.sl 0 true [])])), 2, none⟩, ⟨none, (.store 3 (.t 7) (.t 27)), 3, none⟩, ⟨(some 8), (.mv (.t 28)), 3, none⟩] none) (.seq (.reg [⟨(some 29), (.mv (.t 2)), 0, none⟩, ⟨(some 30), (.bin .num .eql (.t 29) (.c (.int .i64 0))), 0, none⟩, ⟨(some 31), (.mv (.t 30)), 0, none⟩, ⟨(some 32), (.mv (.t 4)), 0, (some (31, true))⟩, ⟨(some 33), (.bin .num .eql (.t 32) (.c (.int .i64 0))), 0, (some (31, true))⟩, ⟨(some 34), (.pick (.t 31) (.t 33) (.c (.bool false))), 0, none⟩, ⟨(some 35), (.mv (.t 34)), 0, none⟩, ⟨(some 36), (.mv (.t 6)), 0, (some (35, true))⟩, ⟨(some 37), (.bin .num .eql (.t 36) (.c (.int .i64 0))), 0, (some (35, true))⟩, ⟨(some 38), (.pick (.t 35) (.t 37) (.c (.bool false))), 0, none⟩, ⟨(some 39), (.mv (.t 38)), 0, none⟩, ⟨(some 40), (.mv (.t 8)), 0, (some (39, true))⟩, ⟨(some 41), (.bin .num .eql (.t 40) (.c (.int .i64 0))), 0, (some (39, true))⟩, ⟨(some 42), (.pick (.t 39) (.t 41) (.c (.bool false))), 0, none⟩, ⟨(some 43), (.mv (.t 42)), 0, none⟩, ⟨(some 44), (.faddr 2 (.t 1)), 0, (some (43, true))⟩, ⟨(some 45), (.load false [(.sl 1)] (.t 44)), 0, (some (43, true))⟩, ⟨(some 46), (.bslice 3 1 2 (.int .i64 0) [(0, (.c (.int .i64 3))), (1, (.c (.int .i64 1)))]), 0, (some (43, true))⟩, ⟨(some 47), (.call (.c (.fn 29)) [(.t 45), (.t 46)]), 1, (some (43, true))⟩, ⟨(some 48), (.pick (.t 43) (.t 47) (.c (.bool false))), 3, none⟩, ⟨(some 49), (.mv (.t 48)), 3, none⟩, ⟨(some 50), (.load true [(.int .i64), (.sl 1), (.sl 1)] (.t 3)), 3, (some (49, true))⟩, ⟨(some 51), (.call (.c (.fn 30)) [(.t 50)]), 3, (some (49, true))⟩, ⟨(some 52), (.bslice 3 1 6 (.int .i64 0) [(0, (.c (.int .i64 0))), (1, (.c (.int .i64 3))), (2, (.c (.int .i64 1))), (3, (.c (.int .i64 4))), (4, (.c (.int .i64 2))), (5, (.c (.int .i64 5)))]), 5, (some (49, true))⟩, ⟨(some 53), (.call (.c (.fn 29)) [(.t 51), (.t 52)]), 6, (some (49, true))⟩, ⟨(some 54), (.pick (.t 49) (.t 53) (.c (.bool false))), 8, none⟩, ⟨(some 55), (.mv (.t 54)), 8, none⟩, ⟨(some 56), (.load true [(.int .i64), (.sl 1), (.sl 1)] (.t 7)), 8, (some (55, true))⟩, ⟨(some 57), (.call (.c (.fn 30)) [(.t 56)]), 8, (some (55, true))⟩, ⟨(some 58), (.bslice 3 1 6 (.int .i64 0) [(0, (.c (.int .i64 0))), (1, (.c (.int .i64 1))), (2, (.c (.int .i64 1))), (3, (.c (.int .i64 2))), (4, (.c (.int .i64 2))), (5, (.c (.int .i64 3)))]), 10, (some (55, true))⟩, ⟨(some 59), (.call (.c (.fn 29)) [(.t 57), (.t 58)]), 11, (some (55, true))⟩, ⟨(some 60), (.pick (.t 55) (.t 59) (.c (.bool false))), 13, none⟩, ⟨(some 61), (.mv (.t 60)), 13, none⟩, ⟨(some 62), (.load true [(.int .i64), (.sl 1), (.sl 1)] (.t 3)), 13, (some (61, true))⟩, ⟨(some 63), (.call (.c (.fn 27)) [(.c (.int .i64 6)), (.t 62)]), 13, (some (61, true))⟩, ⟨(some 64), (.pick (.t 61) (.t 63) (.c (.bool false))), 15, none⟩, ⟨(some 0), (.mv (.t 64)), 15, none⟩] none) .ret))))))
def rs_awake : List IRes := [(.tmp 0)]
abbrev nt_awake : Nat := 65
def T_awake : Tab := tab [(22, .pure pre_size val_of2), (37, .pure pre_v1 (val_sv0 tranC 2)), (60, .pure pre_sv1 (val_sv1 windC 1)), (29, .pure pre_ints val_ints), (30, .pure pre_v1 val_offs), (27, .pure pre_valid val_valid)]
theorem awake_s {r : PV}  (h : (.bool true) = r) : Gets T_awake 0 (fun st => fin st rs_awake = some r) ic_awake [] (st0 65 []) := Gets.w (.lit (.lit (.lit (.lit (.lit (.lit (.lit (.lit (.lit (.lit (.lit (.lit (.lit (.lit (.lit (.lit (.lit (.lit (.lit (.lit (.lit (.lit (.lit (.lit (.lit (.lit (.lit (.lit (.lit (.lit (.lit (.lit (.lit (.lit (.lit (.lit (.lit (.lit (.lit (.lit (.lit (.lit (.lit (.lit (.lit (.lit (.lit (.lit (.lit (.lit (.lit (.nil)))))))))))))))))))))))))))))))))))))))))))))))))))) h (by kernel_rfl)

def ic_lstep : IC := (.seq (.reg [⟨(some 2), (.box 3 (.t 0)), 0, none⟩, ⟨(some 3), (.box 2 (.t 1)), 1, none⟩, ⟨(some 4), (.mv (.c (.bool false))), 2, none⟩] none) (.seq (.seq (.reg [⟨(some 9), (.call (.c (.fn 20)) []), 0, none⟩, ⟨(some 10), (.un .not (.t 9)), 2, none⟩] none) (.cond (.t 10) (.seq (.reg [⟨(some 4), (.mv (.c (.bool false))), 0, none⟩] none) .ret) .skip)) (.seq (.seq (.reg [⟨(some 11), (.load true [(.int .i64), (.sl 1), (.sl 1)] (.t 2)), 0, none⟩, ⟨(some 12), (.call (.c (.fn 21)) [(.t 11)]), 0, none⟩, ⟨(some 13), (.un .not (.t 12)), 2, none⟩, ⟨(some 14), (.mv (.t 13)), 2, none⟩, ⟨(some 15), (.faddr 0 (.t 3)), 2, (some (14, false))⟩, ⟨(some 16), (.load false [(.int .i64)] (.t 15)), 2, (some (14, false))⟩, ⟨(some 17), (.bin .num .lss (.t 16) (.c (.int .i64 1))), 2, (some (14, false))⟩, ⟨(some 18), (.pick (.t 14) (.c (.bool true)) (.t 17)), 2, none⟩, ⟨(some 19), (.mv (.t 18)), 2, none⟩, ⟨(some 20), (.faddr 0 (.t 3)), 2, (some (19, false))⟩, ⟨(some 21), (.load false [(.int .i64)] (.t 20)), 2, (some (19, false))⟩, ⟨(some 22), (.bin .num .gtr (.t 21) (.c (.int .i64 7))), 2, (some (19, false))⟩, ⟨(some 23), (.pick (.t 19) (.c (.bool true)) (.t 22)), 2, none⟩] none) (.cond (.t 23) (.seq (.reg [⟨(some 4), (.mv (.c (.bool true))), 0, none⟩] none) .ret) .skip)) (.seq (.reg [⟨(some 25), (.load true [(.int .i64), (.sl 1), (.sl 1)] (.t 2)), 0, none⟩, ⟨(some 26), (.load true [(.int .i64), (.int .i64)] (.t 3)), 0, none⟩, ⟨(some 27), (.call (.c (.fn 64)) [(.t 25), (.t 26)]), 0, none⟩, ⟨(some 24), (.mv (.t 27)), 2, none⟩, ⟨(some 28), (.extract (.t 24) 0), 2, none⟩, ⟨(some 29), (.extract (.t 24) 1), 2, none⟩, ⟨(some 5), (.alloc (.agg [(.int .i64 0), (.sl 0 true []), (.sl 0 true [])])), 2, none⟩, ⟨none, (.store 3 (.t 5) (.t 28)), 3, none⟩, ⟨(some 6), (.mv (.t 29)), 3, none⟩] none) (.seq (.reg [⟨(some 31), (.load true [(.int .i64), (.sl 1), (.sl 1)] (.t 2)), 0, none⟩, ⟨(some 32), (.load true [(.int .i64), (.int .i64)] (.t 3)), 0, none⟩, ⟨(some 33), (.call (.c (.fn 65)) [(.t 31), (.t 32)]), 0, none⟩, ⟨(some 30), (.mv (.t 33)), 2, none⟩, ⟨(some 34), (.extract (.t 30) 0), 2, none⟩, ⟨(some 35), (.extract (.t 30) 1), 2, none⟩, ⟨(some 7), (.alloc (.agg [(.int .i64 0), (.sl 0 true []), (.sl 0 true [])])), 2, none⟩, ⟨none, (.store 3 (.t 7) (.t 34)), 3, none⟩, ⟨(some 8), (.mv (.t 35)), 3, none⟩] none) (.seq (.reg [⟨(some 36), (.load true [(.int .i64), (.sl 1), (.sl 1)] (.t 5)), 0, none⟩, ⟨(some 37), (.load true [(.int .i64), (.sl 1), (.sl 1)] (.t 7)), 0, none⟩, ⟨(some 38), (.call (.c (.fn 26)) [(.t 36), (.t 37)]), 0, none⟩, ⟨(some 39), (.mv (.t 38)), 2, none⟩, ⟨(some 40), (.mv (.t 6)), 2, (some (39, true))⟩, ⟨(some 41), (.mv (.t 8)), 2, (some (39, true))⟩, ⟨(some 42), (.bin .num .eql (.t 40) (.t 41)), 2, (some (39, true))⟩, ⟨(some 43), (.pick (.t 39) (.t 42) (.c (.bool false))), 2, none⟩, ⟨(some 4), (.mv (.t 43)), 2, none⟩] none) .ret))))))
def rs_lstep : List IRes := [(.tmp 4)]
abbrev nt_lstep : Nat := 44
def T_lstep : Tab := tab [(20, .pure pre_nil val_true), (21, .pure pre_v1 val_few), (64, .pure pre_do val_do), (65, .pure pre_rdo val_do), (26, .pure pre_v2 val_same)]
theorem lstep_s {r : PV} (o : Int) (d s : List Int) (t u : Bool) (q k : Int) (h : (pre_v1 [(.agg [(.int .i64 o), (.sl 1 t (nums d)), (.sl 1 u (nums s))])]) = true ∧ (if (!fewB (PV.agg [PV.int .i64 o, PV.sl 1 t (nums d), PV.sl 1 u (nums s)]).vO (PV.agg [PV.int .i64 o, PV.sl 1 t (nums d), PV.sl 1 u (nums s)]).vD (PV.agg [PV.int .i64 o, PV.sl 1 t (nums d), PV.sl 1 u (nums s)]).vS) = true then (.bool true) = r else (if (decide (q < 1)) = true then (.bool true) = r else (if (decide (q > 7)) = true then (.bool true) = r else ((pre_do [(.agg [(.int .i64 o), (.sl 1 t (nums d)), (.sl 1 u (nums s))]), (.agg [(.int .i64 q), (.int .i64 k)])]) = true ∧ (pre_rdo [(.agg [(.int .i64 o), (.sl 1 t (nums d)), (.sl 1 u (nums s))]), (.agg [(.int .i64 q), (.int .i64 k)])]) = true ∧ (pre_v2 [(.agg [(.int .i64 ((doB (PV.agg [PV.int .i64 q, PV.int .i64 k]).xQ (PV.agg [PV.int .i64 q, PV.int .i64 k]).xK (PV.agg [PV.int .i64 o, PV.sl 1 t (nums d), PV.sl 1 u (nums s)]).vO (PV.agg [PV.int .i64 o, PV.sl 1 t (nums d), PV.sl 1 u (nums s)]).vD (PV.agg [PV.int .i64 o, PV.sl 1 t (nums d), PV.sl 1 u (nums s)]).vS).fst.fst)), (.sl 1 false (nums (doB (PV.agg [PV.int .i64 q, PV.int .i64 k]).xQ (PV.agg [PV.int .i64 q, PV.int .i64 k]).xK (PV.agg [PV.int .i64 o, PV.sl 1 t (nums d), PV.sl 1 u (nums s)]).vO (PV.agg [PV.int .i64 o, PV.sl 1 t (nums d), PV.sl 1 u (nums s)]).vD (PV.agg [PV.int .i64 o, PV.sl 1 t (nums d), PV.sl 1 u (nums s)]).vS).fst.snd.fst)), (.sl 1 false (nums (doB (PV.agg [PV.int .i64 q, PV.int .i64 k]).xQ (PV.agg [PV.int .i64 q, PV.int .i64 k]).xK (PV.agg [PV.int .i64 o, PV.sl 1 t (nums d), PV.sl 1 u (nums s)]).vO (PV.agg [PV.int .i64 o, PV.sl 1 t (nums d), PV.sl 1 u (nums s)]).vD (PV.agg [PV.int .i64 o, PV.sl 1 t (nums d), PV.sl 1 u (nums s)]).vS).fst.snd.snd))]), (.agg [(.int .i64 ((doB (PV.agg [PV.int .i64 q, PV.int .i64 k]).xQ (PV.agg [PV.int .i64 q, PV.int .i64 k]).xK (PV.agg [PV.int .i64 o, PV.sl 1 t (nums d), PV.sl 1 u (nums s)]).vO (PV.agg [PV.int .i64 o, PV.sl 1 t (nums d), PV.sl 1 u (nums s)]).vD (PV.agg [PV.int .i64 o, PV.sl 1 t (nums d), PV.sl 1 u (nums s)]).vS).fst.fst)), (.sl 1 false (nums (doB (PV.agg [PV.int .i64 q, PV.int .i64 k]).xQ (PV.agg [PV.int .i64 q, PV.int .i64 k]).xK (PV.agg [PV.int .i64 o, PV.sl 1 t (nums d), PV.sl 1 u (nums s)]).vO (PV.agg [PV.int .i64 o, PV.sl 1 t (nums d), PV.sl 1 u (nums s)]).vD (PV.agg [PV.int .i64 o, PV.sl 1 t (nums d), PV.sl 1 u (nums s)]).vS).fst.snd.fst)), (.sl 1 false (nums (doB (PV.agg [PV.int .i64 q, PV.int .i64 k]).xQ (PV.agg [PV.int .i64 q, PV.int .i64 k]).xK (PV.agg [PV.int .i64 o, PV.sl 1 t (nums d), PV.sl 1 u (nums s)]).vO (PV.agg [PV.int .i64 o, PV.sl 1 t (nums d), PV.sl 1 u (nums s)]).vD (PV.agg [PV.int .i64 o, PV.sl 1 t (nums d), PV.sl 1 u (nums s)]).vS).fst.snd.snd))])]) = true ∧ (if ((PV.agg [PV.int .i64 (doB (PV.agg [PV.int .i64 q, PV.int .i64 k]).xQ (PV.agg [PV.int .i64 q, PV.int .i64 k]).xK (PV.agg [PV.int .i64 o, PV.sl 1 t (nums d), PV.sl 1 u (nums s)]).vO (PV.agg [PV.int .i64 o, PV.sl 1 t (nums d), PV.sl 1 u (nums s)]).vD (PV.agg [PV.int .i64 o, PV.sl 1 t (nums d), PV.sl 1 u (nums s)]).vS).fst.fst, PV.sl 1 false (nums (doB (PV.agg [PV.int .i64 q, PV.int .i64 k]).xQ (PV.agg [PV.int .i64 q, PV.int .i64 k]).xK (PV.agg [PV.int .i64 o, PV.sl 1 t (nums d), PV.sl 1 u (nums s)]).vO (PV.agg [PV.int .i64 o, PV.sl 1 t (nums d), PV.sl 1 u (nums s)]).vD (PV.agg [PV.int .i64 o, PV.sl 1 t (nums d), PV.sl 1 u (nums s)]).vS).fst.snd.fst), PV.sl 1 false (nums (doB (PV.agg [PV.int .i64 q, PV.int .i64 k]).xQ (PV.agg [PV.int .i64 q, PV.int .i64 k]).xK (PV.agg [PV.int .i64 o, PV.sl 1 t (nums d), PV.sl 1 u (nums s)]).vO (PV.agg [PV.int .i64 o, PV.sl 1 t (nums d), PV.sl 1 u (nums s)]).vD (PV.agg [PV.int .i64 o, PV.sl 1 t (nums d), PV.sl 1 u (nums s)]).vS).fst.snd.snd)]).vO == (PV.agg [PV.int .i64 (doB (PV.agg [PV.int .i64 q, PV.int .i64 k]).xQ (PV.agg [PV.int .i64 q, PV.int .i64 k]).xK (PV.agg [PV.int .i64 o, PV.sl 1 t (nums d), PV.sl 1 u (nums s)]).vO (PV.agg [PV.int .i64 o, PV.sl 1 t (nums d), PV.sl 1 u (nums s)]).vD (PV.agg [PV.int .i64 o, PV.sl 1 t (nums d), PV.sl 1 u (nums s)]).vS).fst.fst, PV.sl 1 false (nums (doB (PV.agg [PV.int .i64 q, PV.int .i64 k]).xQ (PV.agg [PV.int .i64 q, PV.int .i64 k]).xK (PV.agg [PV.int .i64 o, PV.sl 1 t (nums d), PV.sl 1 u (nums s)]).vO (PV.agg [PV.int .i64 o, PV.sl 1 t (nums d), PV.sl 1 u (nums s)]).vD (PV.agg [PV.int .i64 o, PV.sl 1 t (nums d), PV.sl 1 u (nums s)]).vS).fst.snd.fst), PV.sl 1 false (nums (doB (PV.agg [PV.int .i64 q, PV.int .i64 k]).xQ (PV.agg [PV.int .i64 q, PV.int .i64 k]).xK (PV.agg [PV.int .i64 o, PV.sl 1 t (nums d), PV.sl 1 u (nums s)]).vO (PV.agg [PV.int .i64 o, PV.sl 1 t (nums d), PV.sl 1 u (nums s)]).vD (PV.agg [PV.int .i64 o, PV.sl 1 t (nums d), PV.sl 1 u (nums s)]).vS).fst.snd.snd)]).vO && (decide ((PV.agg [PV.int .i64 (doB (PV.agg [PV.int .i64 q, PV.int .i64 k]).xQ (PV.agg [PV.int .i64 q, PV.int .i64 k]).xK (PV.agg [PV.int .i64 o, PV.sl 1 t (nums d), PV.sl 1 u (nums s)]).vO (PV.agg [PV.int .i64 o, PV.sl 1 t (nums d), PV.sl 1 u (nums s)]).vD (PV.agg [PV.int .i64 o, PV.sl 1 t (nums d), PV.sl 1 u (nums s)]).vS).fst.fst, PV.sl 1 false (nums (doB (PV.agg [PV.int .i64 q, PV.int .i64 k]).xQ (PV.agg [PV.int .i64 q, PV.int .i64 k]).xK (PV.agg [PV.int .i64 o, PV.sl 1 t (nums d), PV.sl 1 u (nums s)]).vO (PV.agg [PV.int .i64 o, PV.sl 1 t (nums d), PV.sl 1 u (nums s)]).vD (PV.agg [PV.int .i64 o, PV.sl 1 t (nums d), PV.sl 1 u (nums s)]).vS).fst.snd.fst), PV.sl 1 false (nums (doB (PV.agg [PV.int .i64 q, PV.int .i64 k]).xQ (PV.agg [PV.int .i64 q, PV.int .i64 k]).xK (PV.agg [PV.int .i64 o, PV.sl 1 t (nums d), PV.sl 1 u (nums s)]).vO (PV.agg [PV.int .i64 o, PV.sl 1 t (nums d), PV.sl 1 u (nums s)]).vD (PV.agg [PV.int .i64 o, PV.sl 1 t (nums d), PV.sl 1 u (nums s)]).vS).fst.snd.snd)]).vD = (PV.agg [PV.int .i64 (doB (PV.agg [PV.int .i64 q, PV.int .i64 k]).xQ (PV.agg [PV.int .i64 q, PV.int .i64 k]).xK (PV.agg [PV.int .i64 o, PV.sl 1 t (nums d), PV.sl 1 u (nums s)]).vO (PV.agg [PV.int .i64 o, PV.sl 1 t (nums d), PV.sl 1 u (nums s)]).vD (PV.agg [PV.int .i64 o, PV.sl 1 t (nums d), PV.sl 1 u (nums s)]).vS).fst.fst, PV.sl 1 false (nums (doB (PV.agg [PV.int .i64 q, PV.int .i64 k]).xQ (PV.agg [PV.int .i64 q, PV.int .i64 k]).xK (PV.agg [PV.int .i64 o, PV.sl 1 t (nums d), PV.sl 1 u (nums s)]).vO (PV.agg [PV.int .i64 o, PV.sl 1 t (nums d), PV.sl 1 u (nums s)]).vD (PV.agg [PV.int .i64 o, PV.sl 1 t (nums d), PV.sl 1 u (nums s)]).vS).fst.snd.fst), PV.sl 1 false (nums (doB (PV.agg [PV.int .i64 q, PV.int .i64 k]).xQ (PV.agg [PV.int .i64 q, PV.int .i64 k]).xK (PV.agg [PV.int .i64 o, PV.sl 1 t (nums d), PV.sl 1 u (nums s)]).vO (PV.agg [PV.int .i64 o, PV.sl 1 t (nums d), PV.sl 1 u (nums s)]).vD (PV.agg [PV.int .i64 o, PV.sl 1 t (nums d), PV.sl 1 u (nums s)]).vS).fst.snd.snd)]).vD) && decide ((PV.agg [PV.int .i64 (doB (PV.agg [PV.int .i64 q, PV.int .i64 k]).xQ (PV.agg [PV.int .i64 q, PV.int .i64 k]).xK (PV.agg [PV.int .i64 o, PV.sl 1 t (nums d), PV.sl 1 u (nums s)]).vO (PV.agg [PV.int .i64 o, PV.sl 1 t (nums d), PV.sl 1 u (nums s)]).vD (PV.agg [PV.int .i64 o, PV.sl 1 t (nums d), PV.sl 1 u (nums s)]).vS).fst.fst, PV.sl 1 false (nums (doB (PV.agg [PV.int .i64 q, PV.int .i64 k]).xQ (PV.agg [PV.int .i64 q, PV.int .i64 k]).xK (PV.agg [PV.int .i64 o, PV.sl 1 t (nums d), PV.sl 1 u (nums s)]).vO (PV.agg [PV.int .i64 o, PV.sl 1 t (nums d), PV.sl 1 u (nums s)]).vD (PV.agg [PV.int .i64 o, PV.sl 1 t (nums d), PV.sl 1 u (nums s)]).vS).fst.snd.fst), PV.sl 1 false (nums (doB (PV.agg [PV.int .i64 q, PV.int .i64 k]).xQ (PV.agg [PV.int .i64 q, PV.int .i64 k]).xK (PV.agg [PV.int .i64 o, PV.sl 1 t (nums d), PV.sl 1 u (nums s)]).vO (PV.agg [PV.int .i64 o, PV.sl 1 t (nums d), PV.sl 1 u (nums s)]).vD (PV.agg [PV.int .i64 o, PV.sl 1 t (nums d), PV.sl 1 u (nums s)]).vS).fst.snd.snd)]).vS = (PV.agg [PV.int .i64 (doB (PV.agg [PV.int .i64 q, PV.int .i64 k]).xQ (PV.agg [PV.int .i64 q, PV.int .i64 k]).xK (PV.agg [PV.int .i64 o, PV.sl 1 t (nums d), PV.sl 1 u (nums s)]).vO (PV.agg [PV.int .i64 o, PV.sl 1 t (nums d), PV.sl 1 u (nums s)]).vD (PV.agg [PV.int .i64 o, PV.sl 1 t (nums d), PV.sl 1 u (nums s)]).vS).fst.fst, PV.sl 1 false (nums (doB (PV.agg [PV.int .i64 q, PV.int .i64 k]).xQ (PV.agg [PV.int .i64 q, PV.int .i64 k]).xK (PV.agg [PV.int .i64 o, PV.sl 1 t (nums d), PV.sl 1 u (nums s)]).vO (PV.agg [PV.int .i64 o, PV.sl 1 t (nums d), PV.sl 1 u (nums s)]).vD (PV.agg [PV.int .i64 o, PV.sl 1 t (nums d), PV.sl 1 u (nums s)]).vS).fst.snd.fst), PV.sl 1 false (nums (doB (PV.agg [PV.int .i64 q, PV.int .i64 k]).xQ (PV.agg [PV.int .i64 q, PV.int .i64 k]).xK (PV.agg [PV.int .i64 o, PV.sl 1 t (nums d), PV.sl 1 u (nums s)]).vO (PV.agg [PV.int .i64 o, PV.sl 1 t (nums d), PV.sl 1 u (nums s)]).vD (PV.agg [PV.int .i64 o, PV.sl 1 t (nums d), PV.sl 1 u (nums s)]).vS).fst.snd.snd)]).vS))) = true then (.bool ((doB (PV.agg [PV.int .i64 q, PV.int .i64 k]).xQ (PV.agg [PV.int .i64 q, PV.int .i64 k]).xK (PV.agg [PV.int .i64 o, PV.sl 1 t (nums d), PV.sl 1 u (nums s)]).vO (PV.agg [PV.int .i64 o, PV.sl 1 t (nums d), PV.sl 1 u (nums s)]).vD (PV.agg [PV.int .i64 o, PV.sl 1 t (nums d), PV.sl 1 u (nums s)]).vS).snd == (doB (PV.agg [PV.int .i64 q, PV.int .i64 k]).xQ (PV.agg [PV.int .i64 q, PV.int .i64 k]).xK (PV.agg [PV.int .i64 o, PV.sl 1 t (nums d), PV.sl 1 u (nums s)]).vO (PV.agg [PV.int .i64 o, PV.sl 1 t (nums d), PV.sl 1 u (nums s)]).vD (PV.agg [PV.int .i64 o, PV.sl 1 t (nums d), PV.sl 1 u (nums s)]).vS).snd)) = r else ((.bool false) = r))))))) : Gets T_lstep 0 (fun st => fin st rs_lstep = some r) ic_lstep [] (st0 44 [(.agg [.int .i64 o, .sl 1 t (nums d), .sl 1 u (nums s)]), .agg [.int .i64 q, .int .i64 k]]) := Gets.w (.lit (.lit (.req (.ask (.lit (.lit (.lit (.lit (.lit (.lit (.lit (.lit (.nil))))))))) (.lit (.lit (.lit (.lit (.ask (.lit (.lit (.lit (.lit (.nil))))) (.lit (.lit (.lit (.lit (.ask (.nil) (.req (.req (.req (.ask (.lit (.lit (.lit (.lit (.nil))))) (.lit (.lit (.lit (.nil)))))))))))))))))))))) h (by kernel_rfl)

end Go.Pl

/-
  The law of a step, by its run.
-/
namespace Go.Pl
open Go.RowKit
set_option linter.unusedVariables false
set_option linter.unusedSimpArgs false

theorem awake_run : ∀ ps, pre_nil ps = true → Gets T_awake 0 (fun st => fin st rs_awake = some (val_true ps)) ic_awake [] (st0 nt_awake ps) := by
  intro ps hp
  have : ps = [] := List.isEmpty_iff.1 hp
  subst this
  exact awake_s rfl

theorem size6 {d : List Int} (h : (sizeB d).2 = 0) : d.length ≤ 6 := (sizeB_ok (by simp [h])).1
/-- A step's view is small. -/
theorem stepB_small (f : Chg) (rk : Nat) (o : Int) (d s : List Int) (k : Int) (hf : ∀ c, (dimC f c).length ≤ 8 ∧ (strC f c).length ≤ 8) : (stepB f rk o d s k).1.2.1.length ≤ 1000000 ∧ (stepB f rk o d s k).1.2.2.length ≤ 1000000 := by
  unfold stepB
  cases h : formB d s with
  | false => simp
  | true =>
    obtain ⟨h6, hl⟩ := form_ok h
    obtain ⟨k1, k2⟩ := hf (caT rk o d s k)
    by_cases hr : d.length < rk
    · simp [hr]
    · cases h1 : errC f (caT rk o d s k) != 0 with
      | true => simp [hr]
      | false =>
        cases h2 : (sizeB (d.take (d.length - rk) ++ dimC f (caT rk o d s k))).2 != 0 with
        | true => simp [hr]
        | false =>
          simp only [hr, decide_false, cond_false, cond_true, List.length_append, List.length_take]
          omega
theorem chg_small (q : Int) : ∀ c, (dimC (chgOf q).1 c).length ≤ 8 ∧ (strC (chgOf q).1 c).length ≤ 8 := by
  intro c
  unfold chgOf
  repeat' split
  · simp only [dimC, strC, takeC]; by_cases h : c.k < 0 ∨ c.k > n0 c <;> simp [h]
  · simp only [dimC, strC, dropC]; by_cases h : c.k < 0 ∨ c.k > n0 c <;> simp [h]
  · simp [dimC, strC, revC]
  · simp [dimC, strC, tranC]
  · simp only [dimC, strC, diagC]; by_cases h : n0 c ≠ n1 c <;> simp [h]
  · simp only [dimC, strC, windC]; by_cases h : c.k < 0 ∨ c.k > n0 c <;> simp [h]
  · simp only [dimC, strC, chunkC]; by_cases h : c.k < 1 ∨ c.k > 64 <;> by_cases h2 : (n0 c).tmod c.k ≠ 0 <;> simp [h, h2]
theorem doB_small (q k o : Int) (d s : List Int) : (doB q k o d s).1.2.1.length ≤ 1000000 ∧ (doB q k o d s).1.2.2.length ≤ 1000000 := stepB_small _ _ _ _ _ _ (chg_small q)

def pre_lstep : List PV → Bool
  | [p, .agg [.int .i64 _, .int .i64 _]] => pre_view p && in64 p.vO
  | _ => false
theorem lstep_run : ∀ ps, pre_lstep ps = true → Gets T_lstep 0 (fun st => fin st rs_lstep = some (val_true ps)) ic_lstep [] (st0 nt_lstep ps) := by
  intro ps hp
  unfold pre_lstep at hp
  split at hp
  · rename_i p q k
    simp only [Bool.and_eq_true] at hp
    obtain ⟨hv, hin⟩ := hp
    obtain ⟨o, d, s, t, u, rfl, hd, hs⟩ := view_of hv
    rw [vw_O] at hin
    refine lstep_s o d s t u q k ⟨by simpa [pre_v1] using hv, ?_⟩
    by_cases h0 : fewB o d s = true
    · rw [if_neg (by simpa using h0)]
      by_cases h1 : q < 1
      · rw [if_pos (by simpa using h1)]; rfl
      · rw [if_neg (by simpa using h1)]
        by_cases h7 : q > 7
        · rw [if_pos (by simpa using h7)]; rfl
        · rw [if_neg (by simpa using h7)]
          have hsm := doB_small q k o d s
          refine ⟨by simp [pre_do, hv]; omega, by simp [pre_rdo, hv, hin]; omega, ?_, ?_⟩
          · have hw := pre_view_of (doB q k o d s).1.1 (doB q k o d s).1.2.1 (doB q k o d s).1.2.2 false false (by omega) (by omega)
            simp only [PV.xQ, PV.xK, PV.fld, PV.asInt, List.getD_cons_zero, List.getD_cons_succ, vw_O, vw_D, vw_S, pre_v2, hw, Bool.and_eq_true, decide_eq_true_eq]
            exact ⟨trivial, trivial, hsm.1, hsm.2⟩
          · simp [val_true]
    · rw [if_pos (by simpa using h0)]; rfl
  · cases hp
end Go.Pl

/-
  Steps as functions of what they are handed.
-/
namespace Go.Pl
open Go.RowKit
set_option linter.unusedVariables false
set_option linter.unusedSimpArgs false

def stepV0 (f : Chg) (rk : Nat) (ps : List PV) : VR := match ps with | [p] => stepB f rk p.vO p.vD p.vS 0 | _ => ((0, [], []), 0)
def val_tv0 (f : Chg) (rk : Nat) (ps : List PV) : PV := vrP (stepV0 f rk ps)
theorem tv0_eq (f : Chg) (rk : Nat) (ps : List PV) (h : pre_v1 ps = true) : val_sv0 f rk ps = val_tv0 f rk ps := by
  unfold pre_v1 at h
  split at h
  · rfl
  · cases h
def stepV1 (f : Chg) (rk : Nat) (ps : List PV) : VR := match ps with | [p, .int _ k] => stepB f rk p.vO p.vD p.vS k | _ => ((0, [], []), 0)
def val_tv1 (f : Chg) (rk : Nat) (ps : List PV) : PV := vrP (stepV1 f rk ps)
theorem tv1_eq (f : Chg) (rk : Nat) (ps : List PV) (h : pre_sv1 ps = true) : val_sv1 f rk ps = val_tv1 f rk ps := by
  unfold pre_sv1 at h
  split at h
  · rfl
  · cases h
def offsV (ps : List PV) : List Int := match ps with | [p] => offsB p.vO p.vD p.vS | _ => []
def val_toffs (ps : List PV) : PV := .sl 1 false (nums (offsV ps))
theorem toffs_eq (ps : List PV) (h : pre_v1 ps = true) : val_offs ps = val_toffs ps := by
  unfold pre_v1 at h
  split at h
  · rfl
  · cases h
def fewV (ps : List PV) : Bool := match ps with | [p] => fewB p.vO p.vD p.vS | _ => false
def val_tfew (ps : List PV) : PV := .bool (fewV ps)
theorem tfew_eq (ps : List PV) (h : pre_v1 ps = true) : val_few ps = val_tfew ps := by
  unfold pre_v1 at h
  split at h
  · rfl
  · cases h
def sameV (ps : List PV) : Bool := match ps with | [p, q] => (p.vO == q.vO && (decide (p.vD = q.vD) && decide (p.vS = q.vS))) | _ => false
def val_tsame (ps : List PV) : PV := .bool (sameV ps)
theorem tsame_eq (ps : List PV) (h : pre_v2 ps = true) : val_same ps = val_tsame ps := by
  unfold pre_v2 at h
  split at h
  · rfl
  · cases h
def intsV (ps : List PV) : Bool := match ps with | [p, q] => decide (p.ns = q.ns) | _ => false
def val_tints (ps : List PV) : PV := .bool (intsV ps)
theorem tints_eq (ps : List PV) (h : pre_ints ps = true) : val_ints ps = val_tints ps := by
  unfold pre_ints at h
  split at h
  · simp only [val_ints, val_tints, intsV, PV.ns, PV.asXs]
    congr 1
  · cases h
@[simp] theorem stepV0_v (f : Chg) (rk : Nat) (o : Int) (d s : List Int) (t u : Bool) : stepV0 f rk [.agg [.int .i64 o, .sl 1 t (nums d), .sl 1 u (nums s)]] = stepB f rk o d s 0 := by simp [stepV0]
@[simp] theorem stepV1_v (f : Chg) (rk : Nat) (o : Int) (d s : List Int) (t u : Bool) (k : Int) : stepV1 f rk [.agg [.int .i64 o, .sl 1 t (nums d), .sl 1 u (nums s)], .int .i64 k] = stepB f rk o d s k := by simp [stepV1]
@[simp] theorem offsV_v (o : Int) (d s : List Int) (t u : Bool) : offsV [.agg [.int .i64 o, .sl 1 t (nums d), .sl 1 u (nums s)]] = offsB o d s := by simp [offsV]
@[simp] theorem fewV_v (o : Int) (d s : List Int) (t u : Bool) : fewV [.agg [.int .i64 o, .sl 1 t (nums d), .sl 1 u (nums s)]] = fewB o d s := by simp [fewV]
@[simp] theorem sameV_v (o o' : Int) (d s d' s' : List Int) (t u t' u' : Bool) : sameV [.agg [.int .i64 o, .sl 1 t (nums d), .sl 1 u (nums s)], .agg [.int .i64 o', .sl 1 t' (nums d'), .sl 1 u' (nums s')]] = (o == o' && (decide (d = d') && decide (s = s'))) := by simp [sameV]
@[simp] theorem intsV_v (d s : List Int) (t u : Bool) : intsV [.sl 1 t (nums d), .sl 1 u (nums s)] = decide (d = s) := by simp [intsV]

/-! ### twice -/
theorem few_in {o : Int} {d s : List Int} (h : fewB o d s = true) : (-1000000 ≤ o ∧ o ≤ 1000000) ∧ ∀ x ∈ s, -1000000 ≤ x ∧ x ≤ 1000000 := by
  simp only [fewB, Bool.and_eq_true, Bool.not_eq_true', decide_eq_false_iff_not, List.all_eq_true] at h
  exact ⟨⟨by omega, by omega⟩, fun x hx => by have := h.2.2.2.2.1 x hx; omega⟩

/-- The product. -/
def prodI : List Int → Int
  | [] => 1
  | x :: l => x * prodI l
theorem prodI_append : ∀ (a b : List Int), prodI (a ++ b) = prodI a * prodI b
  | [], b => by simp [prodI]
  | x :: a, b => by simp [prodI, prodI_append a b, Int.mul_assoc]
theorem prodI_pos : ∀ {l : List Int}, (∀ x ∈ l, 1 ≤ x) → 1 ≤ prodI l
  | [], _ => by simp [prodI]
  | x :: l, h => by
    have h1 := h x List.mem_cons_self
    have h2 := prodI_pos (l := l) fun y hy => h y (List.mem_cons_of_mem _ hy)
    simp only [prodI]
    have : 1 * 1 ≤ x * prodI l := Int.mul_le_mul h1 h2 (by omega) (by omega)
    omega
theorem prodB_iff : ∀ {l : List Int} {p : Int}, 1 ≤ p → (∀ x ∈ l, 1 ≤ x) → p ≤ 4096 → ((∃ n, prodB p l = some n) ↔ p * prodI l ≤ 4096)
  | [], p, _, _, h => by simp [prodB, prodI, h]
  | x :: l, p, hp, hl, _ => by
    have h1 := hl x List.mem_cons_self
    have h2 := prodI_pos (l := l) fun y hy => hl y (List.mem_cons_of_mem _ hy)
    have hpx : 1 ≤ p * x := by have : 1 * 1 ≤ p * x := Int.mul_le_mul hp h1 (by omega) (by omega); omega
    have hle : p * x ≤ p * (x * prodI l) := by
      rw [← Int.mul_assoc]
      have : p * x * 1 ≤ p * x * prodI l := Int.mul_le_mul_of_nonneg_left h2 (by omega)
      omega
    simp only [prodB, prodI]
    by_cases hb : 4096 < p * x
    · simp only [hb, decide_true, cond_true]
      constructor
      · rintro ⟨n, hn⟩; cases hn
      · intro h; omega
    · simp only [hb, decide_false, cond_false]
      rw [prodB_iff hpx (fun y hy => hl y (List.mem_cons_of_mem _ hy)) (by omega), Int.mul_assoc]
/-- Dimensions are well. -/
def dimsOK (l : List Int) : Prop := l.length ≤ 6 ∧ (∀ x ∈ l, 0 ≤ x ∧ x ≤ 4096) ∧ ((0 : Int) ∈ l ∨ prodI l ≤ 4096)
theorem all_dim {l : List Int} : l.all dimB = true ↔ ∀ x ∈ l, 0 ≤ x ∧ x ≤ 4096 := by
  simp [List.all_eq_true, dimB]
theorem any_zero {l : List Int} : l.any (· == 0) = true ↔ (0 : Int) ∈ l := by
  simp [List.any_eq_true]
theorem size_ok {l : List Int} : (sizeB l).2 = 0 ↔ dimsOK l := by
  unfold sizeB dimsOK
  by_cases h6 : 6 < l.length
  · simp [h6]; omega
  · cases ha : l.all dimB with
    | false =>
      have : ¬ ∀ x ∈ l, 0 ≤ x ∧ x ≤ 4096 := fun h => by rw [← all_dim, ha] at h; cases h
      simp only [h6, decide_false, cond_false, this, false_and, and_false, iff_false]
      decide
    | true =>
      have hall := all_dim.1 ha
      cases hz : l.any (· == 0) with
      | true =>
        have h0 := any_zero.1 hz
        simp only [h6, decide_false, cond_false, cond_true, true_iff]
        exact ⟨by omega, hall, .inl h0⟩
      | false =>
        have h0 : ¬ (0 : Int) ∈ l := fun h => by rw [← any_zero, hz] at h; cases h
        have hpos : ∀ x ∈ l, 1 ≤ x := fun x hx => by
          have := hall x hx
          by_cases e : x = 0
          · subst e; exact absurd hx h0
          · omega
        have key := prodB_iff (l := l) (p := 1) (by omega) hpos (by omega)
        rw [Int.one_mul] at key
        simp only [h6, decide_false, cond_false, cond_true]
        cases hp : prodB 1 l with
        | none =>
          simp only [hp] at key
          constructor
          · intro h; simp at h
          · rintro ⟨_, _, h | h⟩
            · exact absurd h h0
            · obtain ⟨n, hn⟩ := key.2 h; cases hn
        | some n =>
          simp only [true_iff]
          exact ⟨by omega, hall, .inr (key.1 ⟨n, hp⟩)⟩
theorem form_iff {d s : List Int} : formB d s = true ↔ dimsOK d ∧ s.length = d.length := by
  simp only [formB, Bool.and_eq_true, beq_iff_eq, decide_eq_true_eq, size_ok]

theorem madeB_ok {k : Nat} {off : Int} {d s xs ys : List Int} (h : dimsOK (d.take k ++ xs)) : madeB k off d s xs ys = ((off, d.take k ++ xs, s.take k ++ ys), 0) := by
  simp [madeB, size_ok.2 h]
theorem take_last {α : Type} [Inhabited α] {l : List α} (z : α) (h : 1 ≤ l.length) : l.take (l.length - 1) ++ [l.getD (l.length - 1) z] = l := by
  have hlt : l.length - 1 < l.length := by omega
  rw [show l.getD (l.length - 1) z = l[l.length - 1] by simp [List.getD, hlt]]
  have := List.take_append_getElem (l := l) (i := l.length - 1) hlt
  rw [this]
  exact List.take_of_length_le (by omega)

def revO (o : Int) (d s : List Int) : Int := if d.getD (d.length - 1) 0 > 0 then w64 (o + w64 (w64 (d.getD (d.length - 1) 0 - 1) * s.getD (d.length - 1) 0)) else o
theorem rev_ok {o : Int} {d s : List Int} (h : formB d s = true) (h1 : 1 ≤ d.length) : stepB revC 1 o d s 0 = ((revO o d s, d, s.take (d.length - 1) ++ [w64 (-s.getD (d.length - 1) 0)]), 0) := by
  have hd := (form_iff.1 h).1
  rw [stepB_ok h (by omega) (show revC (caT 1 o d s 0) = .inr (revO o d s, [d.getD (d.length - 1) 0], [w64 (-s.getD (d.length - 1) 0)]) by
    simp only [revC, caT_o, n0_ca o d s 0 (Nat.le_refl 1) h1, m0_ca o d s 0 (Nat.le_refl 1) h1, revO]), madeB_ok (by rw [take_last 0 h1]; exact hd), take_last 0 h1]
theorem tran_ok {o : Int} {d s : List Int} (h : formB d s = true) (h2 : 2 ≤ d.length) (hd : dimsOK (d.take (d.length - 2) ++ [d.getD (d.length - 1) 0, d.getD (d.length - 2) 0])) : stepB tranC 2 o d s 0 = ((o, d.take (d.length - 2) ++ [d.getD (d.length - 1) 0, d.getD (d.length - 2) 0], s.take (d.length - 2) ++ [s.getD (d.length - 1) 0, s.getD (d.length - 2) 0]), 0) := by
  rw [stepB_ok h (by omega) (show tranC (caT 2 o d s 0) = .inr (o, [d.getD (d.length - 1) 0, d.getD (d.length - 2) 0], [s.getD (d.length - 1) 0, s.getD (d.length - 2) 0]) by
    simp only [tranC, caT_o, n0_ca o d s 0 (show 1 ≤ 2 by omega) h2, m0_ca o d s 0 (show 1 ≤ 2 by omega) h2, n1_ca o d s 0 h2, m1_ca o d s 0 h2]), madeB_ok hd]
end Go.Pl

/-
  Vj: the code, and its runs from head to head (printed by pgen.py).
-/
namespace Go.Pl
open Go.RowKit
set_option linter.unusedVariables false
set_option maxRecDepth 100000

def ic_ltwice : IC := (.seq (.reg [⟨(some 1), (.box 3 (.t 0)), 0, none⟩, ⟨(some 2), (.mv (.c (.bool false))), 1, none⟩] none) (.seq (.seq (.reg [⟨(some 14), (.call (.c (.fn 20)) []), 0, none⟩, ⟨(some 15), (.un .not (.t 14)), 2, none⟩] none) (.cond (.t 15) (.seq (.reg [⟨(some 2), (.mv (.c (.bool false))), 0, none⟩] none) .ret) .skip)) (.seq (.seq (.reg [⟨(some 16), (.load true [(.int .i64), (.sl 1), (.sl 1)] (.t 1)), 0, none⟩, ⟨(some 17), (.call (.c (.fn 21)) [(.t 16)]), 0, none⟩, ⟨(some 18), (.un .not (.t 17)), 2, none⟩, ⟨(some 19), (.mv (.t 18)), 2, none⟩, ⟨(some 20), (.faddr 1 (.t 1)), 2, (some (19, false))⟩, ⟨(some 21), (.load false [(.sl 1)] (.t 20)), 2, (some (19, false))⟩, ⟨(some 22), (.len 1 (.t 21)), 2, (some (19, false))⟩, ⟨(some 23), (.bin .num .lss (.t 22) (.c (.int .i64 2))), 2, (some (19, false))⟩, ⟨(some 24), (.pick (.t 19) (.c (.bool true)) (.t 23)), 2, none⟩, ⟨(some 25), (.mv (.t 24)), 2, none⟩, ⟨(some 26), (.faddr 2 (.t 1)), 2, (some (25, false))⟩, ⟨(some 27), (.load false [(.sl 1)] (.t 26)), 2, (some (25, false))⟩, ⟨(some 28), (.len 1 (.t 27)), 2, (some (25, false))⟩, ⟨(some 29), (.faddr 1 (.t 1)), 2, (some (25, false))⟩, ⟨(some 30), (.load false [(.sl 1)] (.t 29)), 2, (some (25, false))⟩, ⟨(some 31), (.len 1 (.t 30)), 2, (some (25, false))⟩, ⟨(some 32), (.bin .num .neq (.t 28) (.t 31)), 2, (some (25, false))⟩, ⟨(some 33), (.pick (.t 25) (.c (.bool true)) (.t 32)), 2, none⟩] none) (.cond (.t 33) (.seq (.reg [⟨(some 2), (.mv (.c (.bool true))), 0, none⟩] none) .ret) .skip)) (.seq (.seq (.reg [⟨(some 35), (.faddr 1 (.t 1)), 0, none⟩, ⟨(some 36), (.load false [(.sl 1)] (.t 35)), 0, none⟩, ⟨(some 37), (.call (.c (.fn 35)) [(.t 36)]), 0, none⟩, ⟨(some 34), (.mv (.t 37)), 2, none⟩, ⟨(some 38), (.extract (.t 34) 0), 2, none⟩, ⟨(some 39), (.extract (.t 34) 1), 2, none⟩, ⟨(some 3), (.mv (.t 38)), 2, none⟩, ⟨(some 4), (.mv (.t 39)), 2, none⟩] none) (.seq (.reg [⟨(some 40), (.mv (.t 4)), 0, none⟩, ⟨(some 41), (.bin .num .neq (.t 40) (.c (.int .i64 0))), 0, none⟩] none) (.cond (.t 41) (.seq (.reg [⟨(some 2), (.mv (.c (.bool true))), 0, none⟩] none) .ret) .skip))) (.seq (.reg [⟨(some 43), (.load true [(.int .i64), (.sl 1), (.sl 1)] (.t 1)), 0, none⟩, ⟨(some 44), (.call (.c (.fn 36)) [(.t 43)]), 0, none⟩, ⟨(some 42), (.mv (.t 44)), 2, none⟩, ⟨(some 45), (.extract (.t 42) 0), 2, none⟩, ⟨(some 46), (.extract (.t 42) 1), 2, none⟩, ⟨(some 5), (.alloc (.agg [(.int .i64 0), (.sl 0 true []), (.sl 0 true [])])), 2, none⟩, ⟨none, (.store 3 (.t 5) (.t 45)), 3, none⟩, ⟨(some 6), (.mv (.t 46)), 3, none⟩] none) (.seq (.reg [⟨(some 48), (.load true [(.int .i64), (.sl 1), (.sl 1)] (.t 5)), 0, none⟩, ⟨(some 49), (.call (.c (.fn 36)) [(.t 48)]), 0, none⟩, ⟨(some 47), (.mv (.t 49)), 2, none⟩, ⟨(some 50), (.extract (.t 47) 0), 2, none⟩, ⟨(some 51), (.extract (.t 47) 1), 2, none⟩, ⟨(some 7), (.alloc (.agg [(.int .i64 0), (.sl 0 true []), (.sl 0 true [])])), 2, none⟩, ⟨none, (.store 3 (.t 7) (.t 50)), 3, none⟩, ⟨(some 8), (.mv (.t 51)), 3, none⟩] none) (.seq (.reg [⟨(some 53), (.load true [(.int .i64), (.sl 1), (.sl 1)] (.t 1)), 0, none⟩, ⟨(some 54), (.call (.c (.fn 37)) [(.t 53)]), 0, none⟩, ⟨(some 52), (.mv (.t 54)), 2, none⟩, ⟨(some 55), (.extract (.t 52) 0), 2, none⟩, ⟨(some 56), (.extract (.t 52) 1), 2, none⟩, ⟨(some 9), (.alloc (.agg [(.int .i64 0), (.sl 0 true []), (.sl 0 true [])])), 2, none⟩, ⟨none, (.store 3 (.t 9) (.t 55)), 3, none⟩, ⟨(some 10), (.mv (.t 56)), 3, none⟩] none) (.seq (.reg [⟨(some 58), (.load true [(.int .i64), (.sl 1), (.sl 1)] (.t 9)), 0, none⟩, ⟨(some 59), (.call (.c (.fn 37)) [(.t 58)]), 0, none⟩, ⟨(some 57), (.mv (.t 59)), 2, none⟩, ⟨(some 60), (.extract (.t 57) 0), 2, none⟩, ⟨(some 61), (.extract (.t 57) 1), 2, none⟩, ⟨(some 11), (.alloc (.agg [(.int .i64 0), (.sl 0 true []), (.sl 0 true [])])), 2, none⟩, ⟨none, (.store 3 (.t 11) (.t 60)), 3, none⟩, ⟨(some 12), (.mv (.t 61)), 3, none⟩] none) (.seq (.reg [⟨(some 62), (.load true [(.int .i64), (.sl 1), (.sl 1)] (.t 1)), 0, none⟩, ⟨(some 63), (.call (.c (.fn 30)) [(.t 62)]), 0, none⟩, ⟨(some 13), (.mv (.t 63)), 2, none⟩] none) (.seq (.reg [⟨(some 64), (.mv (.t 6)), 0, none⟩, ⟨(some 65), (.bin .num .eql (.t 64) (.c (.int .i64 0))), 0, none⟩, ⟨(some 66), (.mv (.t 65)), 0, none⟩, ⟨(some 67), (.mv (.t 8)), 0, (some (66, true))⟩, ⟨(some 68), (.bin .num .eql (.t 67) (.c (.int .i64 0))), 0, (some (66, true))⟩, ⟨(some 69), (.pick (.t 66) (.t 68) (.c (.bool false))), 0, none⟩, ⟨(some 70), (.mv (.t 69)), 0, none⟩, ⟨(some 71), (.mv (.t 10)), 0, (some (70, true))⟩, ⟨(some 72), (.bin .num .eql (.t 71) (.c (.int .i64 0))), 0, (some (70, true))⟩, ⟨(some 73), (.pick (.t 70) (.t 72) (.c (.bool false))), 0, none⟩, ⟨(some 74), (.mv (.t 73)), 0, none⟩, ⟨(some 75), (.mv (.t 12)), 0, (some (74, true))⟩, ⟨(some 76), (.bin .num .eql (.t 75) (.c (.int .i64 0))), 0, (some (74, true))⟩, ⟨(some 77), (.pick (.t 74) (.t 76) (.c (.bool false))), 0, none⟩, ⟨(some 78), (.mv (.t 77)), 0, none⟩, ⟨(some 79), (.load true [(.int .i64), (.sl 1), (.sl 1)] (.t 7)), 0, (some (78, true))⟩, ⟨(some 80), (.call (.c (.fn 30)) [(.t 79)]), 0, (some (78, true))⟩, ⟨(some 81), (.mv (.t 13)), 2, (some (78, true))⟩, ⟨(some 82), (.call (.c (.fn 29)) [(.t 80), (.t 81)]), 2, (some (78, true))⟩, ⟨(some 83), (.pick (.t 78) (.t 82) (.c (.bool false))), 4, none⟩, ⟨(some 84), (.mv (.t 83)), 4, none⟩, ⟨(some 85), (.load true [(.int .i64), (.sl 1), (.sl 1)] (.t 11)), 4, (some (84, true))⟩, ⟨(some 86), (.call (.c (.fn 30)) [(.t 85)]), 4, (some (84, true))⟩, ⟨(some 87), (.mv (.t 13)), 6, (some (84, true))⟩, ⟨(some 88), (.call (.c (.fn 29)) [(.t 86), (.t 87)]), 6, (some (84, true))⟩, ⟨(some 89), (.pick (.t 84) (.t 88) (.c (.bool false))), 8, none⟩, ⟨(some 90), (.mv (.t 89)), 8, none⟩, ⟨(some 91), (.faddr 1 (.t 7)), 8, (some (90, true))⟩, ⟨(some 92), (.load false [(.sl 1)] (.t 91)), 8, (some (90, true))⟩, ⟨(some 93), (.faddr 1 (.t 1)), 8, (some (90, true))⟩, ⟨(some 94), (.load false [(.sl 1)] (.t 93)), 8, (some (90, true))⟩, ⟨(some 95), (.call (.c (.fn 29)) [(.t 92), (.t 94)]), 8, (some (90, true))⟩, ⟨(some 96), (.pick (.t 90) (.t 95) (.c (.bool false))), 10, none⟩, ⟨(some 97), (.mv (.t 96)), 10, none⟩, ⟨(some 98), (.load true [(.int .i64), (.sl 1), (.sl 1)] (.t 11)), 10, (some (97, true))⟩, ⟨(some 99), (.load true [(.int .i64), (.sl 1), (.sl 1)] (.t 1)), 10, (some (97, true))⟩, ⟨(some 100), (.call (.c (.fn 26)) [(.t 98), (.t 99)]), 10, (some (97, true))⟩, ⟨(some 101), (.pick (.t 97) (.t 100) (.c (.bool false))), 12, none⟩, ⟨(some 2), (.mv (.t 101)), 12, none⟩] none) .ret))))))))))
def rs_ltwice : List IRes := [(.tmp 2)]
abbrev nt_ltwice : Nat := 102
def T_ltwice : Tab := tab [(20, .pure pre_nil val_true), (21, .pure pre_v1 val_tfew), (35, .pure pre_size val_size), (36, .pure pre_v1 (val_tv0 revC 1)), (37, .pure pre_v1 (val_tv0 tranC 2)), (26, .pure pre_v2 val_tsame), (29, .pure pre_ints val_tints), (30, .pure pre_v1 val_toffs)]
theorem ltwice_s {r : PV} (o : Int) (d s : List Int) (t u : Bool) (h : (pre_v1 [(.agg [(.int .i64 o), (.sl 1 t (nums d)), (.sl 1 u (nums s))])]) = true ∧ (if (!fewV [PV.agg [PV.int .i64 o, PV.sl 1 t (nums d), PV.sl 1 u (nums s)]]) = true then (.bool true) = r else (if (decide ((↑(nums d).length : Int) < 2)) = true then (.bool true) = r else (if ((↑(nums s).length : Int) != (↑(nums d).length : Int)) = true then (.bool true) = r else ((pre_size [(.sl 1 t (nums d))]) = true ∧ (if ((sizeB (List.map PV.asInt (nums d))).snd != 0) = true then (.bool true) = r else ((pre_v1 [(.agg [(.int .i64 o), (.sl 1 t (nums d)), (.sl 1 u (nums s))])]) = true ∧ (pre_v1 [(.agg [(.int .i64 ((stepV0 revC 1 [PV.agg [PV.int .i64 o, PV.sl 1 t (nums d), PV.sl 1 u (nums s)]]).fst.fst)), (.sl 1 false (nums (stepV0 revC 1 [PV.agg [PV.int .i64 o, PV.sl 1 t (nums d), PV.sl 1 u (nums s)]]).fst.snd.fst)), (.sl 1 false (nums (stepV0 revC 1 [PV.agg [PV.int .i64 o, PV.sl 1 t (nums d), PV.sl 1 u (nums s)]]).fst.snd.snd))])]) = true ∧ (pre_v1 [(.agg [(.int .i64 o), (.sl 1 t (nums d)), (.sl 1 u (nums s))])]) = true ∧ (pre_v1 [(.agg [(.int .i64 ((stepV0 tranC 2 [PV.agg [PV.int .i64 o, PV.sl 1 t (nums d), PV.sl 1 u (nums s)]]).fst.fst)), (.sl 1 false (nums (stepV0 tranC 2 [PV.agg [PV.int .i64 o, PV.sl 1 t (nums d), PV.sl 1 u (nums s)]]).fst.snd.fst)), (.sl 1 false (nums (stepV0 tranC 2 [PV.agg [PV.int .i64 o, PV.sl 1 t (nums d), PV.sl 1 u (nums s)]]).fst.snd.snd))])]) = true ∧ (pre_v1 [(.agg [(.int .i64 o), (.sl 1 t (nums d)), (.sl 1 u (nums s))])]) = true ∧ (if ((stepV0 revC 1 [PV.agg [PV.int .i64 o, PV.sl 1 t (nums d), PV.sl 1 u (nums s)]]).snd == 0) = true then if ((stepV0 revC 1 [PV.agg [PV.int .i64 (stepV0 revC 1 [PV.agg [PV.int .i64 o, PV.sl 1 t (nums d), PV.sl 1 u (nums s)]]).fst.fst, PV.sl 1 false (nums (stepV0 revC 1 [PV.agg [PV.int .i64 o, PV.sl 1 t (nums d), PV.sl 1 u (nums s)]]).fst.snd.fst), PV.sl 1 false (nums (stepV0 revC 1 [PV.agg [PV.int .i64 o, PV.sl 1 t (nums d), PV.sl 1 u (nums s)]]).fst.snd.snd)]]).snd == 0) = true then if ((stepV0 tranC 2 [PV.agg [PV.int .i64 o, PV.sl 1 t (nums d), PV.sl 1 u (nums s)]]).snd == 0) = true then if ((stepV0 tranC 2 [PV.agg [PV.int .i64 (stepV0 tranC 2 [PV.agg [PV.int .i64 o, PV.sl 1 t (nums d), PV.sl 1 u (nums s)]]).fst.fst, PV.sl 1 false (nums (stepV0 tranC 2 [PV.agg [PV.int .i64 o, PV.sl 1 t (nums d), PV.sl 1 u (nums s)]]).fst.snd.fst), PV.sl 1 false (nums (stepV0 tranC 2 [PV.agg [PV.int .i64 o, PV.sl 1 t (nums d), PV.sl 1 u (nums s)]]).fst.snd.snd)]]).snd == 0) = true then (pre_v1 [(.agg [(.int .i64 ((stepV0 revC 1 [PV.agg [PV.int .i64 (stepV0 revC 1 [PV.agg [PV.int .i64 o, PV.sl 1 t (nums d), PV.sl 1 u (nums s)]]).fst.fst, PV.sl 1 false (nums (stepV0 revC 1 [PV.agg [PV.int .i64 o, PV.sl 1 t (nums d), PV.sl 1 u (nums s)]]).fst.snd.fst), PV.sl 1 false (nums (stepV0 revC 1 [PV.agg [PV.int .i64 o, PV.sl 1 t (nums d), PV.sl 1 u (nums s)]]).fst.snd.snd)]]).fst.fst)), (.sl 1 false (nums (stepV0 revC 1 [PV.agg [PV.int .i64 (stepV0 revC 1 [PV.agg [PV.int .i64 o, PV.sl 1 t (nums d), PV.sl 1 u (nums s)]]).fst.fst, PV.sl 1 false (nums (stepV0 revC 1 [PV.agg [PV.int .i64 o, PV.sl 1 t (nums d), PV.sl 1 u (nums s)]]).fst.snd.fst), PV.sl 1 false (nums (stepV0 revC 1 [PV.agg [PV.int .i64 o, PV.sl 1 t (nums d), PV.sl 1 u (nums s)]]).fst.snd.snd)]]).fst.snd.fst)), (.sl 1 false (nums (stepV0 revC 1 [PV.agg [PV.int .i64 (stepV0 revC 1 [PV.agg [PV.int .i64 o, PV.sl 1 t (nums d), PV.sl 1 u (nums s)]]).fst.fst, PV.sl 1 false (nums (stepV0 revC 1 [PV.agg [PV.int .i64 o, PV.sl 1 t (nums d), PV.sl 1 u (nums s)]]).fst.snd.fst), PV.sl 1 false (nums (stepV0 revC 1 [PV.agg [PV.int .i64 o, PV.sl 1 t (nums d), PV.sl 1 u (nums s)]]).fst.snd.snd)]]).fst.snd.snd))])]) = true ∧ ((pre_ints [(.sl 1 false (nums (offsV [PV.agg [PV.int .i64 (stepV0 revC 1 [PV.agg [PV.int .i64 (stepV0 revC 1 [PV.agg [PV.int .i64 o, PV.sl 1 t (nums d), PV.sl 1 u (nums s)]]).fst.fst, PV.sl 1 false (nums (stepV0 revC 1 [PV.agg [PV.int .i64 o, PV.sl 1 t (nums d), PV.sl 1 u (nums s)]]).fst.snd.fst), PV.sl 1 false (nums (stepV0 revC 1 [PV.agg [PV.int .i64 o, PV.sl 1 t (nums d), PV.sl 1 u (nums s)]]).fst.snd.snd)]]).fst.fst, PV.sl 1 false (nums (stepV0 revC 1 [PV.agg [PV.int .i64 (stepV0 revC 1 [PV.agg [PV.int .i64 o, PV.sl 1 t (nums d), PV.sl 1 u (nums s)]]).fst.fst, PV.sl 1 false (nums (stepV0 revC 1 [PV.agg [PV.int .i64 o, PV.sl 1 t (nums d), PV.sl 1 u (nums s)]]).fst.snd.fst), PV.sl 1 false (nums (stepV0 revC 1 [PV.agg [PV.int .i64 o, PV.sl 1 t (nums d), PV.sl 1 u (nums s)]]).fst.snd.snd)]]).fst.snd.fst), PV.sl 1 false (nums (stepV0 revC 1 [PV.agg [PV.int .i64 (stepV0 revC 1 [PV.agg [PV.int .i64 o, PV.sl 1 t (nums d), PV.sl 1 u (nums s)]]).fst.fst, PV.sl 1 false (nums (stepV0 revC 1 [PV.agg [PV.int .i64 o, PV.sl 1 t (nums d), PV.sl 1 u (nums s)]]).fst.snd.fst), PV.sl 1 false (nums (stepV0 revC 1 [PV.agg [PV.int .i64 o, PV.sl 1 t (nums d), PV.sl 1 u (nums s)]]).fst.snd.snd)]]).fst.snd.snd)]]))), (.sl 1 false (nums (offsV [PV.agg [PV.int .i64 o, PV.sl 1 t (nums d), PV.sl 1 u (nums s)]])))]) = true ∧ (if (intsV [(.sl 1 false (nums (offsV [PV.agg [PV.int .i64 (stepV0 revC 1 [PV.agg [PV.int .i64 (stepV0 revC 1 [PV.agg [PV.int .i64 o, PV.sl 1 t (nums d), PV.sl 1 u (nums s)]]).fst.fst, PV.sl 1 false (nums (stepV0 revC 1 [PV.agg [PV.int .i64 o, PV.sl 1 t (nums d), PV.sl 1 u (nums s)]]).fst.snd.fst), PV.sl 1 false (nums (stepV0 revC 1 [PV.agg [PV.int .i64 o, PV.sl 1 t (nums d), PV.sl 1 u (nums s)]]).fst.snd.snd)]]).fst.fst, PV.sl 1 false (nums (stepV0 revC 1 [PV.agg [PV.int .i64 (stepV0 revC 1 [PV.agg [PV.int .i64 o, PV.sl 1 t (nums d), PV.sl 1 u (nums s)]]).fst.fst, PV.sl 1 false (nums (stepV0 revC 1 [PV.agg [PV.int .i64 o, PV.sl 1 t (nums d), PV.sl 1 u (nums s)]]).fst.snd.fst), PV.sl 1 false (nums (stepV0 revC 1 [PV.agg [PV.int .i64 o, PV.sl 1 t (nums d), PV.sl 1 u (nums s)]]).fst.snd.snd)]]).fst.snd.fst), PV.sl 1 false (nums (stepV0 revC 1 [PV.agg [PV.int .i64 (stepV0 revC 1 [PV.agg [PV.int .i64 o, PV.sl 1 t (nums d), PV.sl 1 u (nums s)]]).fst.fst, PV.sl 1 false (nums (stepV0 revC 1 [PV.agg [PV.int .i64 o, PV.sl 1 t (nums d), PV.sl 1 u (nums s)]]).fst.snd.fst), PV.sl 1 false (nums (stepV0 revC 1 [PV.agg [PV.int .i64 o, PV.sl 1 t (nums d), PV.sl 1 u (nums s)]]).fst.snd.snd)]]).fst.snd.snd)]]))), (.sl 1 false (nums (offsV [PV.agg [PV.int .i64 o, PV.sl 1 t (nums d), PV.sl 1 u (nums s)]])))]) = true then (pre_v1 [(.agg [(.int .i64 ((stepV0 tranC 2 [PV.agg [PV.int .i64 (stepV0 tranC 2 [PV.agg [PV.int .i64 o, PV.sl 1 t (nums d), PV.sl 1 u (nums s)]]).fst.fst, PV.sl 1 false (nums (stepV0 tranC 2 [PV.agg [PV.int .i64 o, PV.sl 1 t (nums d), PV.sl 1 u (nums s)]]).fst.snd.fst), PV.sl 1 false (nums (stepV0 tranC 2 [PV.agg [PV.int .i64 o, PV.sl 1 t (nums d), PV.sl 1 u (nums s)]]).fst.snd.snd)]]).fst.fst)), (.sl 1 false (nums (stepV0 tranC 2 [PV.agg [PV.int .i64 (stepV0 tranC 2 [PV.agg [PV.int .i64 o, PV.sl 1 t (nums d), PV.sl 1 u (nums s)]]).fst.fst, PV.sl 1 false (nums (stepV0 tranC 2 [PV.agg [PV.int .i64 o, PV.sl 1 t (nums d), PV.sl 1 u (nums s)]]).fst.snd.fst), PV.sl 1 false (nums (stepV0 tranC 2 [PV.agg [PV.int .i64 o, PV.sl 1 t (nums d), PV.sl 1 u (nums s)]]).fst.snd.snd)]]).fst.snd.fst)), (.sl 1 false (nums (stepV0 tranC 2 [PV.agg [PV.int .i64 (stepV0 tranC 2 [PV.agg [PV.int .i64 o, PV.sl 1 t (nums d), PV.sl 1 u (nums s)]]).fst.fst, PV.sl 1 false (nums (stepV0 tranC 2 [PV.agg [PV.int .i64 o, PV.sl 1 t (nums d), PV.sl 1 u (nums s)]]).fst.snd.fst), PV.sl 1 false (nums (stepV0 tranC 2 [PV.agg [PV.int .i64 o, PV.sl 1 t (nums d), PV.sl 1 u (nums s)]]).fst.snd.snd)]]).fst.snd.snd))])]) = true ∧ ((pre_ints [(.sl 1 false (nums (offsV [PV.agg [PV.int .i64 (stepV0 tranC 2 [PV.agg [PV.int .i64 (stepV0 tranC 2 [PV.agg [PV.int .i64 o, PV.sl 1 t (nums d), PV.sl 1 u (nums s)]]).fst.fst, PV.sl 1 false (nums (stepV0 tranC 2 [PV.agg [PV.int .i64 o, PV.sl 1 t (nums d), PV.sl 1 u (nums s)]]).fst.snd.fst), PV.sl 1 false (nums (stepV0 tranC 2 [PV.agg [PV.int .i64 o, PV.sl 1 t (nums d), PV.sl 1 u (nums s)]]).fst.snd.snd)]]).fst.fst, PV.sl 1 false (nums (stepV0 tranC 2 [PV.agg [PV.int .i64 (stepV0 tranC 2 [PV.agg [PV.int .i64 o, PV.sl 1 t (nums d), PV.sl 1 u (nums s)]]).fst.fst, PV.sl 1 false (nums (stepV0 tranC 2 [PV.agg [PV.int .i64 o, PV.sl 1 t (nums d), PV.sl 1 u (nums s)]]).fst.snd.fst), PV.sl 1 false (nums (stepV0 tranC 2 [PV.agg [PV.int .i64 o, PV.sl 1 t (nums d), PV.sl 1 u (nums s)]]).fst.snd.snd)]]).fst.snd.fst), PV.sl 1 false (nums (stepV0 tranC 2 [PV.agg [PV.int .i64 (stepV0 tranC 2 [PV.agg [PV.int .i64 o, PV.sl 1 t (nums d), PV.sl 1 u (nums s)]]).fst.fst, PV.sl 1 false (nums (stepV0 tranC 2 [PV.agg [PV.int .i64 o, PV.sl 1 t (nums d), PV.sl 1 u (nums s)]]).fst.snd.fst), PV.sl 1 false (nums (stepV0 tranC 2 [PV.agg [PV.int .i64 o, PV.sl 1 t (nums d), PV.sl 1 u (nums s)]]).fst.snd.snd)]]).fst.snd.snd)]]))), (.sl 1 false (nums (offsV [PV.agg [PV.int .i64 o, PV.sl 1 t (nums d), PV.sl 1 u (nums s)]])))]) = true ∧ (if (intsV [(.sl 1 false (nums (offsV [PV.agg [PV.int .i64 (stepV0 tranC 2 [PV.agg [PV.int .i64 (stepV0 tranC 2 [PV.agg [PV.int .i64 o, PV.sl 1 t (nums d), PV.sl 1 u (nums s)]]).fst.fst, PV.sl 1 false (nums (stepV0 tranC 2 [PV.agg [PV.int .i64 o, PV.sl 1 t (nums d), PV.sl 1 u (nums s)]]).fst.snd.fst), PV.sl 1 false (nums (stepV0 tranC 2 [PV.agg [PV.int .i64 o, PV.sl 1 t (nums d), PV.sl 1 u (nums s)]]).fst.snd.snd)]]).fst.fst, PV.sl 1 false (nums (stepV0 tranC 2 [PV.agg [PV.int .i64 (stepV0 tranC 2 [PV.agg [PV.int .i64 o, PV.sl 1 t (nums d), PV.sl 1 u (nums s)]]).fst.fst, PV.sl 1 false (nums (stepV0 tranC 2 [PV.agg [PV.int .i64 o, PV.sl 1 t (nums d), PV.sl 1 u (nums s)]]).fst.snd.fst), PV.sl 1 false (nums (stepV0 tranC 2 [PV.agg [PV.int .i64 o, PV.sl 1 t (nums d), PV.sl 1 u (nums s)]]).fst.snd.snd)]]).fst.snd.fst), PV.sl 1 false (nums (stepV0 tranC 2 [PV.agg [PV.int .i64 (stepV0 tranC 2 [PV.agg [PV.int .i64 o, PV.sl 1 t (nums d), PV.sl 1 u (nums s)]]).fst.fst, PV.sl 1 false (nums (stepV0 tranC 2 [PV.agg [PV.int .i64 o, PV.sl 1 t (nums d), PV.sl 1 u (nums s)]]).fst.snd.fst), PV.sl 1 false (nums (stepV0 tranC 2 [PV.agg [PV.int .i64 o, PV.sl 1 t (nums d), PV.sl 1 u (nums s)]]).fst.snd.snd)]]).fst.snd.snd)]]))), (.sl 1 false (nums (offsV [PV.agg [PV.int .i64 o, PV.sl 1 t (nums d), PV.sl 1 u (nums s)]])))]) = true then (pre_ints [(.sl 1 false (nums (stepV0 revC 1 [PV.agg [PV.int .i64 (stepV0 revC 1 [PV.agg [PV.int .i64 o, PV.sl 1 t (nums d), PV.sl 1 u (nums s)]]).fst.fst, PV.sl 1 false (nums (stepV0 revC 1 [PV.agg [PV.int .i64 o, PV.sl 1 t (nums d), PV.sl 1 u (nums s)]]).fst.snd.fst), PV.sl 1 false (nums (stepV0 revC 1 [PV.agg [PV.int .i64 o, PV.sl 1 t (nums d), PV.sl 1 u (nums s)]]).fst.snd.snd)]]).fst.snd.fst)), (.sl 1 t (nums d))]) = true ∧ (if (intsV [(.sl 1 false (nums (stepV0 revC 1 [PV.agg [PV.int .i64 (stepV0 revC 1 [PV.agg [PV.int .i64 o, PV.sl 1 t (nums d), PV.sl 1 u (nums s)]]).fst.fst, PV.sl 1 false (nums (stepV0 revC 1 [PV.agg [PV.int .i64 o, PV.sl 1 t (nums d), PV.sl 1 u (nums s)]]).fst.snd.fst), PV.sl 1 false (nums (stepV0 revC 1 [PV.agg [PV.int .i64 o, PV.sl 1 t (nums d), PV.sl 1 u (nums s)]]).fst.snd.snd)]]).fst.snd.fst)), (.sl 1 t (nums d))]) = true then (pre_v2 [(.agg [(.int .i64 ((stepV0 tranC 2 [PV.agg [PV.int .i64 (stepV0 tranC 2 [PV.agg [PV.int .i64 o, PV.sl 1 t (nums d), PV.sl 1 u (nums s)]]).fst.fst, PV.sl 1 false (nums (stepV0 tranC 2 [PV.agg [PV.int .i64 o, PV.sl 1 t (nums d), PV.sl 1 u (nums s)]]).fst.snd.fst), PV.sl 1 false (nums (stepV0 tranC 2 [PV.agg [PV.int .i64 o, PV.sl 1 t (nums d), PV.sl 1 u (nums s)]]).fst.snd.snd)]]).fst.fst)), (.sl 1 false (nums (stepV0 tranC 2 [PV.agg [PV.int .i64 (stepV0 tranC 2 [PV.agg [PV.int .i64 o, PV.sl 1 t (nums d), PV.sl 1 u (nums s)]]).fst.fst, PV.sl 1 false (nums (stepV0 tranC 2 [PV.agg [PV.int .i64 o, PV.sl 1 t (nums d), PV.sl 1 u (nums s)]]).fst.snd.fst), PV.sl 1 false (nums (stepV0 tranC 2 [PV.agg [PV.int .i64 o, PV.sl 1 t (nums d), PV.sl 1 u (nums s)]]).fst.snd.snd)]]).fst.snd.fst)), (.sl 1 false (nums (stepV0 tranC 2 [PV.agg [PV.int .i64 (stepV0 tranC 2 [PV.agg [PV.int .i64 o, PV.sl 1 t (nums d), PV.sl 1 u (nums s)]]).fst.fst, PV.sl 1 false (nums (stepV0 tranC 2 [PV.agg [PV.int .i64 o, PV.sl 1 t (nums d), PV.sl 1 u (nums s)]]).fst.snd.fst), PV.sl 1 false (nums (stepV0 tranC 2 [PV.agg [PV.int .i64 o, PV.sl 1 t (nums d), PV.sl 1 u (nums s)]]).fst.snd.snd)]]).fst.snd.snd))]), (.agg [(.int .i64 o), (.sl 1 t (nums d)), (.sl 1 u (nums s))])]) = true ∧ ((.bool (sameV [PV.agg [PV.int .i64 (stepV0 tranC 2 [PV.agg [PV.int .i64 (stepV0 tranC 2 [PV.agg [PV.int .i64 o, PV.sl 1 t (nums d), PV.sl 1 u (nums s)]]).fst.fst, PV.sl 1 false (nums (stepV0 tranC 2 [PV.agg [PV.int .i64 o, PV.sl 1 t (nums d), PV.sl 1 u (nums s)]]).fst.snd.fst), PV.sl 1 false (nums (stepV0 tranC 2 [PV.agg [PV.int .i64 o, PV.sl 1 t (nums d), PV.sl 1 u (nums s)]]).fst.snd.snd)]]).fst.fst, PV.sl 1 false (nums (stepV0 tranC 2 [PV.agg [PV.int .i64 (stepV0 tranC 2 [PV.agg [PV.int .i64 o, PV.sl 1 t (nums d), PV.sl 1 u (nums s)]]).fst.fst, PV.sl 1 false (nums (stepV0 tranC 2 [PV.agg [PV.int .i64 o, PV.sl 1 t (nums d), PV.sl 1 u (nums s)]]).fst.snd.fst), PV.sl 1 false (nums (stepV0 tranC 2 [PV.agg [PV.int .i64 o, PV.sl 1 t (nums d), PV.sl 1 u (nums s)]]).fst.snd.snd)]]).fst.snd.fst), PV.sl 1 false (nums (stepV0 tranC 2 [PV.agg [PV.int .i64 (stepV0 tranC 2 [PV.agg [PV.int .i64 o, PV.sl 1 t (nums d), PV.sl 1 u (nums s)]]).fst.fst, PV.sl 1 false (nums (stepV0 tranC 2 [PV.agg [PV.int .i64 o, PV.sl 1 t (nums d), PV.sl 1 u (nums s)]]).fst.snd.fst), PV.sl 1 false (nums (stepV0 tranC 2 [PV.agg [PV.int .i64 o, PV.sl 1 t (nums d), PV.sl 1 u (nums s)]]).fst.snd.snd)]]).fst.snd.snd)], PV.agg [PV.int .i64 o, PV.sl 1 t (nums d), PV.sl 1 u (nums s)]])) = r) else ((.bool false) = r)) else ((.bool false) = r))) else ((.bool false) = r))) else ((.bool false) = r) else ((.bool false) = r) else ((.bool false) = r) else ((.bool false) = r))))))))) : Gets T_ltwice 0 (fun st => fin st rs_ltwice = some r) ic_ltwice [] (st0 102 [(.agg [.int .i64 o, .sl 1 t (nums d), .sl 1 u (nums s)])]) := Gets.w (.lit (.lit (.req (.ask (.lit (.lit (.lit (.lit (.lit (.lit (.lit (.lit (.lit (.lit (.lit (.lit (.lit (.nil)))))))))))))) (.lit (.lit (.lit (.lit (.lit (.ask (.lit (.lit (.lit (.lit (.lit (.lit (.lit (.lit (.nil))))))))) (.lit (.lit (.lit (.lit (.lit (.lit (.lit (.lit (.ask (.nil) (.req (.lit (.ask (.nil) (.req (.req (.req (.req (.req (.lit (.ask (.lit (.lit (.lit (.ask (.lit (.lit (.lit (.ask (.lit (.lit (.lit (.ask (.lit (.req (.lit (.lit (.req (.lit (.ask (.lit (.req (.lit (.lit (.req (.lit (.ask (.lit (.lit (.lit (.lit (.req (.lit (.ask (.lit (.lit (.req (.lit (.nil))))) (.lit (.lit (.lit (.nil))))))))))) (.lit (.lit (.lit (.lit (.lit (.lit (.lit (.lit (.lit (.nil))))))))))))))))) (.lit (.lit (.lit (.lit (.lit (.lit (.lit (.lit (.lit (.lit (.lit (.lit (.lit (.lit (.nil)))))))))))))))))))))) (.lit (.lit (.lit (.lit (.lit (.lit (.lit (.lit (.lit (.lit (.lit (.lit (.lit (.lit (.lit (.lit (.lit (.lit (.lit (.nil)))))))))))))))))))))))) (.lit (.lit (.lit (.lit (.lit (.lit (.lit (.lit (.lit (.lit (.lit (.lit (.lit (.lit (.lit (.lit (.lit (.lit (.lit (.lit (.lit (.lit (.nil))))))))))))))))))))))))))) (.lit (.lit (.lit (.lit (.lit (.lit (.lit (.lit (.lit (.lit (.lit (.lit (.lit (.lit (.lit (.lit (.lit (.lit (.lit (.lit (.lit (.lit (.lit (.lit (.lit (.nil)))))))))))))))))))))))))))))) (.lit (.lit (.lit (.lit (.lit (.lit (.lit (.lit (.lit (.lit (.lit (.lit (.lit (.lit (.lit (.lit (.lit (.lit (.lit (.lit (.lit (.lit (.lit (.lit (.lit (.lit (.lit (.lit (.nil)))))))))))))))))))))))))))))))))))))))))))))))))))))))))) h (by kernel_rfl)

end Go.Pl

/-
  The law of steps taken twice, by its run.
-/
namespace Go.Pl
open Go.RowKit
set_option linter.unusedVariables false
set_option linter.unusedSimpArgs false

theorem getD_mem {l : List Int} {j : Nat} (h : j < l.length) : l.getD j 0 ∈ l := by
  simp [List.getD, h]
theorem rev_twice {o : Int} {d s : List Int} (h : formB d s = true) (h1 : 1 ≤ d.length) (ho : -1000000 ≤ o ∧ o ≤ 1000000) (hs : ∀ x ∈ s, -1000000 ≤ x ∧ x ≤ 1000000) :
    stepB revC 1 (revO o d s) d (s.take (d.length - 1) ++ [w64 (-s.getD (d.length - 1) 0)]) 0 = ((o, d, s), 0) := by
  obtain ⟨hd, hl⟩ := form_iff.1 h
  have hm := hs _ (getD_mem (l := s) (j := d.length - 1) (by omega))
  have hn := hd.2.1 _ (getD_mem (l := d) (j := d.length - 1) (by omega))
  have hlt : (s.take (d.length - 1)).length = d.length - 1 := by simp; omega
  have hf : formB d (s.take (d.length - 1) ++ [w64 (-s.getD (d.length - 1) 0)]) = true := form_iff.2 ⟨hd, by simp; omega⟩
  have hw : w64 (-s.getD (d.length - 1) 0) = -s.getD (d.length - 1) 0 := wrap64 (by omega) (by omega)
  rw [rev_ok hf h1]
  have hg : (s.take (d.length - 1) ++ [w64 (-s.getD (d.length - 1) 0)]).getD (d.length - 1) 0 = -s.getD (d.length - 1) 0 := by
    rw [hw, List.getD, List.getElem?_append_right (by omega), hlt, Nat.sub_self]; rfl
  have ht : (s.take (d.length - 1) ++ [w64 (-s.getD (d.length - 1) 0)]).take (d.length - 1) = s.take (d.length - 1) := by
    rw [List.take_append_of_le_length (by omega), List.take_take, Nat.min_self]
  rw [hg, ht, Int.neg_neg, show w64 (s.getD (d.length - 1) 0) = s.getD (d.length - 1) 0 from wrap64 (by omega) (by omega)]
  have hlast := take_last (l := s) 0 (by omega)
  rw [hl] at hlast
  rw [hlast]
  congr 2
  unfold revO
  rw [hg]
  generalize s.getD (d.length - 1) 0 = m at *
  generalize d.getD (d.length - 1) 0 = n at *
  by_cases hn0 : n > 0
  · simp only [hn0, if_true]
    have hb : -4096000000 ≤ (n - 1) * m ∧ (n - 1) * m ≤ 4096000000 := by
      have a1 : (n - 1) * m ≤ (n - 1) * 1000000 := Int.mul_le_mul_of_nonneg_left hm.2 (by omega)
      have a2 : (n - 1) * (-1000000) ≤ (n - 1) * m := Int.mul_le_mul_of_nonneg_left hm.1 (by omega)
      omega
    have e1 : w64 (n - 1) = n - 1 := wrap64 (by omega) (by omega)
    have e2 : w64 ((n - 1) * m) = (n - 1) * m := wrap64 (by omega) (by omega)
    have e3 : (n - 1) * -m = -((n - 1) * m) := by rw [Int.mul_neg]
    have e4 : w64 (-((n - 1) * m)) = -((n - 1) * m) := wrap64 (by omega) (by omega)
    have e5 : w64 (o + (n - 1) * m) = o + (n - 1) * m := wrap64 (by omega) (by omega)
    rw [e1, e2, e3, e4, e5, show w64 (o + (n - 1) * m + -((n - 1) * m)) = o + (n - 1) * m + -((n - 1) * m) from wrap64 (by omega) (by omega)]
    omega
  · simp only [hn0, if_false]

theorem last_two {l : List Int} (h : 2 ≤ l.length) : ∃ p a b, l = p ++ [a, b] ∧ l.length - 2 = p.length ∧ l.getD (l.length - 1) 0 = b ∧ l.getD (l.length - 2) 0 = a ∧ l.take (l.length - 2) = p := by
  obtain ⟨p, c, rfl⟩ : ∃ p c, l = p ++ [c] := by
    have := List.eq_nil_or_concat l
    rcases this with rfl | ⟨p, c, rfl⟩
    · simp at h
    · exact ⟨p, c, by simp⟩
  obtain ⟨p, a, rfl⟩ : ∃ q c, p = q ++ [c] := by
    have := List.eq_nil_or_concat p
    rcases this with rfl | ⟨p, c, rfl⟩
    · simp at h
    · exact ⟨p, c, by simp⟩
  refine ⟨p, a, c, by simp, by simp, ?_, ?_, ?_⟩
  · simp [List.getD]
  · simp [List.getD]
  · simp
theorem dims_swap {p : List Int} {a b : Int} (h : dimsOK (p ++ [a, b])) : dimsOK (p ++ [b, a]) := by
  obtain ⟨h1, h2, h3⟩ := h
  refine ⟨by simpa using h1, fun x hx => h2 x (by simp at hx ⊢; rcases hx with h | h | h <;> simp [h]), ?_⟩
  rcases h3 with h | h
  · left; simp at h ⊢; rcases h with h | h | h <;> simp [h]
  · right
    rw [prodI_append] at h ⊢
    simp only [prodI, Int.mul_one] at h ⊢
    rwa [Int.mul_comm b a]

theorem tran_twice {o : Int} {d s : List Int} (h : formB d s = true) (h2 : 2 ≤ d.length) :
    ∃ d' s', stepB tranC 2 o d s 0 = ((o, d', s'), 0) ∧ stepB tranC 2 o d' s' 0 = ((o, d, s), 0) ∧ d'.length ≤ 6 ∧ s'.length ≤ 6 := by
  obtain ⟨hd, hl⟩ := form_iff.1 h
  obtain ⟨p, a, b, hp, p1, p2, p3, p4⟩ := last_two h2
  obtain ⟨q, x, y, hq, q1, q2, q3, q4⟩ := last_two (l := s) (by omega)
  rw [hl] at q1 q2 q3 q4
  have hsw : dimsOK (p ++ [b, a]) := dims_swap (by rw [← hp]; exact hd)
  have e1 := tran_ok (o := o) h h2 (by rw [p2, p3, p4]; exact hsw)
  rw [p2, p3, p4, q2, q3, q4] at e1
  have hf' : formB (p ++ [b, a]) (q ++ [y, x]) = true := form_iff.2 ⟨hsw, by simp; omega⟩
  have l1 : (p ++ [b, a]).length = d.length := by simp; omega
  have l2 : (q ++ [y, x]).length = d.length := by simp; omega
  obtain ⟨p', a', b', hp', p1', p2', p3', p4'⟩ := last_two (l := p ++ [b, a]) (by omega)
  obtain ⟨q', x', y', hq', q1', q2', q3', q4'⟩ := last_two (l := q ++ [y, x]) (by omega)
  have inj : ∀ {p p' : List Int} {a b c e : Int}, p ++ [a, b] = p' ++ [c, e] → p = p' ∧ a = c ∧ b = e := by
    intro p p' a b c e h
    have hlen : p.length = p'.length := by have := congrArg List.length h; simpa using this
    have := List.append_inj h hlen
    simp at this
    exact ⟨this.1, this.2.1, this.2.2⟩
  obtain ⟨rfl, rfl, rfl⟩ := inj hp'
  obtain ⟨rfl, rfl, rfl⟩ := inj hq'
  have e2 := tran_ok (o := o) hf' (by omega) (by rw [p2', p3', p4', ← hp]; exact hd)
  rw [p2', p3', p4'] at e2
  rw [l2, ← l1] at q2' q3' q4'
  rw [q2', q3', q4', ← hp, ← hq] at e2
  exact ⟨_, _, e1, e2, by have := hd.1; omega, by have := hd.1; omega⟩

theorem offs_len (o : Int) (d s : List Int) : (offsB o d s).length ≤ 4096 := by
  unfold offsB
  cases formB d s with
  | false => simp
  | true => simp only [cond_true, oset_length]; have := size_le (d := d); omega
theorem pre_ints_of {a b : List Int} {t u : Bool} (h : a.length ≤ 1099511627776) : pre_ints [.sl 1 t (nums a), .sl 1 u (nums b)] = true := by
  simp [pre_ints]; omega

theorem ltwice_run : ∀ ps, pre_v1 ps = true → Gets T_ltwice 0 (fun st => fin st rs_ltwice = some (val_true ps)) ic_ltwice [] (st0 nt_ltwice ps) := by
  intro ps hp
  have hp0 := hp
  unfold pre_v1 at hp
  split at hp
  · rename_i p
    obtain ⟨o, d, s, t, u, rfl, hdl, hsl⟩ := view_of hp
    refine ltwice_s o d s t u ⟨hp0, ?_⟩
    rw [fewV_v]
    cases hfew : fewB o d s with
    | false => rfl
    | true =>
      obtain ⟨ho, hs⟩ := few_in hfew
      rw [if_neg (by simp)]
      by_cases h2 : d.length < 2
      · rw [if_pos (by simp; omega)]; rfl
      · rw [if_neg (by simp; omega)]
        by_cases hl : s.length = d.length
        · rw [if_neg (by simp [hl])]
          refine ⟨by simp [pre_size], ?_⟩
          rw [asInt_nums]
          by_cases hz : (sizeB d).2 = 0
          · rw [if_neg (by simp [hz])]
            have hform : formB d s = true := form_iff.2 ⟨size_ok.1 hz, hl⟩
            have h6 := (size_ok.1 hz).1
            have hR1 := rev_ok (o := o) hform (by omega)
            have hR2 := rev_twice hform (by omega) ho hs
            obtain ⟨d', s', hT1, hT2, l1, l2⟩ := tran_twice (o := o) hform (by omega)
            have hv : pre_v1 [.agg [.int .i64 o, .sl 1 false (nums d), .sl 1 false (nums s)]] = true := pre_view_of o d s false false (by omega) (by omega)
            have hvr : pre_v1 [.agg [.int .i64 (revO o d s), .sl 1 false (nums d), .sl 1 false (nums (s.take (d.length - 1) ++ [w64 (-s.getD (d.length - 1) 0)]))]] = true := pre_view_of (revO o d s) d _ false false (by omega) (by simp; omega)
            have hvt : pre_v1 [.agg [.int .i64 o, .sl 1 false (nums d'), .sl 1 false (nums s')]] = true := pre_view_of o d' s' false false (by omega) (by omega)
            have hoff := offs_len o d s
            have hi1 : pre_ints [.sl 1 false (nums (offsB o d s)), .sl 1 false (nums (offsB o d s))] = true := pre_ints_of (by omega)
            have hi2 : pre_ints [.sl 1 false (nums d), .sl 1 t (nums d)] = true := pre_ints_of (by omega)
            have hsame : pre_v2 [.agg [.int .i64 o, .sl 1 false (nums d), .sl 1 false (nums s)], .agg [.int .i64 o, .sl 1 t (nums d), .sl 1 u (nums s)]] = true := by
              simp [pre_v2, pre_view_of o d s false false (by omega) (by omega), pre_view_of o d s t u (by omega) (by omega)]; omega
            simp only [stepV0_v, hR1, hR2, hT1, hT2, offsV_v, hp0, hv, hvr, hvt, hi1, hi2, hsame, intsV_v, sameV_v, decide_true, beq_self_eq_true, Bool.and_true, if_true, true_and, val_true]
          · rw [if_pos (by simp [hz])]; rfl
        · rw [if_pos (by simp; omega)]; rfl
  · cases hp
end Go.Pl

