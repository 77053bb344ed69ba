/-
  Texts of mine that belong together (packed by pack.py), for every input: GVi, QVp, TyV, GWp1, QWp1, TyW, QWp2.
-/
import Derived.Test.YtpdpkmihgelmoaaKP2
import Derived.Test.YtpdpkmihgelmoaaKP3
import Derived.Test.YtpdpkmihgelmoaaKP4
import Derived.KernelRfl
set_option linter.unusedVariables false
set_option linter.unusedSimpArgs false
namespace Go.Pl
open Go.RowKit
set_option maxRecDepth 100000
def pre_nil : List PV → Bool := fun ps => ps.isEmpty
def val_true : List PV → PV := fun _ => .bool true
def ic_awake : IC := (.seq (.reg [⟨(some 0), (.mv (.c (.bool false))), 0, none⟩] none) (.seq (.reg [⟨(some 10), (.bslice 3 1 2 (.int .i64 0) [(0, (.c (.int .i64 2))), (1, (.c (.int .i64 3)))]), 0, none⟩, ⟨(some 11), (.call (.c (.fn 22)) [(.t 10)]), 1, none⟩, ⟨(some 9), (.mv (.t 11)), 3, none⟩, ⟨(some 12), (.extract (.t 9) 0), 3, none⟩, ⟨(some 13), (.extract (.t 9) 1), 3, none⟩, ⟨(some 1), (.alloc (.agg [(.int .i64 0), (.sl 0 true []), (.sl 0 true [])])), 3, none⟩, ⟨none, (.store 3 (.t 1) (.t 12)), 4, none⟩, ⟨(some 2), (.mv (.t 13)), 4, none⟩] none) (.seq (.reg [⟨(some 15), (.load true [(.int .i64), (.sl 1), (.sl 1)] (.t 1)), 0, none⟩, ⟨(some 16), (.call (.c (.fn 37)) [(.t 15)]), 0, none⟩, ⟨(some 14), (.mv (.t 16)), 2, none⟩, ⟨(some 17), (.extract (.t 14) 0), 2, none⟩, ⟨(some 18), (.extract (.t 14) 1), 2, none⟩, ⟨(some 3), (.alloc (.agg [(.int .i64 0), (.sl 0 true []), (.sl 0 true [])])), 2, none⟩, ⟨none, (.store 3 (.t 3) (.t 17)), 3, none⟩, ⟨(some 4), (.mv (.t 18)), 3, none⟩] none) (.seq (.reg [⟨(some 20), (.bslice 3 1 1 (.int .i64 0) [(0, (.c (.int .i64 4)))]), 0, none⟩, ⟨(some 21), (.call (.c (.fn 22)) [(.t 20)]), 1, none⟩, ⟨(some 19), (.mv (.t 21)), 3, none⟩, ⟨(some 22), (.extract (.t 19) 0), 3, none⟩, ⟨(some 23), (.extract (.t 19) 1), 3, none⟩, ⟨(some 5), (.alloc (.agg [(.int .i64 0), (.sl 0 true []), (.sl 0 true [])])), 3, none⟩, ⟨none, (.store 3 (.t 5) (.t 22)), 4, none⟩, ⟨(some 6), (.mv (.t 23)), 4, none⟩] none) (.seq (.reg [⟨(some 25), (.load true [(.int .i64), (.sl 1), (.sl 1)] (.t 5)), 0, none⟩, ⟨(some 26), (.call (.c (.fn 60)) [(.t 25), (.c (.int .i64 2))]), 0, none⟩, ⟨(some 24), (.mv (.t 26)), 2, none⟩, ⟨(some 27), (.extract (.t 24) 0), 2, none⟩, ⟨(some 28), (.extract (.t 24) 1), 2, none⟩, ⟨(some 7), (.alloc (.agg [(.int .i64 0), (.sl 0 true []), (.sl 0 true [])])), 2, none⟩, ⟨none, (.store 3 (.t 7) (.t 27)), 3, none⟩, ⟨(some 8), (.mv (.t 28)), 3, none⟩] none) (.seq (.reg [⟨(some 29), (.mv (.t 2)), 0, none⟩, ⟨(some 30), (.bin .num .eql (.t 29) (.c (.int .i64 0))), 0, none⟩, ⟨(some 31), (.mv (.t 30)), 0, none⟩, ⟨(some 32), (.mv (.t 4)), 0, (some (31, true))⟩, ⟨(some 33), (.bin .num .eql (.t 32) (.c (.int .i64 0))), 0, (some (31, true))⟩, ⟨(some 34), (.pick (.t 31) (.t 33) (.c (.bool false))), 0, none⟩, ⟨(some 35), (.mv (.t 34)), 0, none⟩, ⟨(some 36), (.mv (.t 6)), 0, (some (35, true))⟩, ⟨(some 37), (.bin .num .eql (.t 36) (.c (.int .i64 0))), 0, (some (35, true))⟩, ⟨(some 38), (.pick (.t 35) (.t 37) (.c (.bool false))), 0, none⟩, ⟨(some 39), (.mv (.t 38)), 0, none⟩, ⟨(some 40), (.mv (.t 8)), 0, (some (39, true))⟩, ⟨(some 41), (.bin .num .eql (.t 40) (.c (.int .i64 0))), 0, (some (39, true))⟩, ⟨(some 42), (.pick (.t 39) (.t 41) (.c (.bool false))), 0, none⟩, ⟨(some 43), (.mv (.t 42)), 0, none⟩, ⟨(some 44), (.faddr 2 (.t 1)), 0, (some (43, true))⟩, ⟨(some 45), (.load false [(.sl 1)] (.t 44)), 0, (some (43, true))⟩, ⟨(some 46), (.bslice 3 1 2 (.int .i64 0) [(0, (.c (.int .i64 3))), (1, (.c (.int .i64 1)))]), 0, (some (43, true))⟩, ⟨(some 47), (.call (.c (.fn 29)) [(.t 45), (.t 46)]), 1, (some (43, true))⟩, ⟨(some 48), (.pick (.t 43) (.t 47) (.c (.bool false))), 3, none⟩, ⟨(some 49), (.mv (.t 48)), 3, none⟩, ⟨(some 50), (.load true [(.int .i64), (.sl 1), (.sl 1)] (.t 3)), 3, (some (49, true))⟩, ⟨(some 51), (.call (.c (.fn 30)) [(.t 50)]), 3, (some (49, true))⟩, ⟨(some 52), (.bslice 3 1 6 (.int .i64 0) [(0, (.c (.int .i64 0))), (1, (.c (.int .i64 3))), (2, (.c (.int .i64 1))), (3, (.c (.int .i64 4))), (4, (.c (.int .i64 2))), (5, (.c (.int .i64 5)))]), 5, (some (49, true))⟩, ⟨(some 53), (.call (.c (.fn 29)) [(.t 51), (.t 52)]), 6, (some (49, true))⟩, ⟨(some 54), (.pick (.t 49) (.t 53) (.c (.bool false))), 8, none⟩, ⟨(some 55), (.mv (.t 54)), 8, none⟩, ⟨(some 56), (.load true [(.int .i64), (.sl 1), (.sl 1)] (.t 7)), 8, (some (55, true))⟩, ⟨(some 57), (.call (.c (.fn 30)) [(.t 56)]), 8, (some (55, true))⟩, ⟨(some 58), (.bslice 3 1 6 (.int .i64 0) [(0, (.c (.int .i64 0))), (1, (.c (.int .i64 1))), (2, (.c (.int .i64 1))), (3, (.c (.int .i64 2))), (4, (.c (.int .i64 2))), (5, (.c (.int .i64 3)))]), 10, (some (55, true))⟩, ⟨(some 59), (.call (.c (.fn 29)) [(.t 57), (.t 58)]), 11, (some (55, true))⟩, ⟨(some 60), (.pick (.t 55) (.t 59) (.c (.bool false))), 13, none⟩, ⟨(some 61), (.mv (.t 60)), 13, none⟩, ⟨(some 62), (.load true [(.int .i64), (.sl 1), (.sl 1)] (.t 3)), 13, (some (61, true))⟩, ⟨(some 63), (.call (.c (.fn 27)) [(.c (.int .i64 6)), (.t 62)]), 13, (some (61, true))⟩, ⟨(some 64), (.pick (.t 61) (.t 63) (.c (.bool false))), 15, none⟩, ⟨(some 0), (.mv (.t 64)), 15, none⟩] none) .ret))))))
def rs_awake : List IRes := [(.tmp 0)]
abbrev nt_awake : Nat := 65
def T_awake : Tab := tab [(22, .pure pre_size val_of2), (37, .pure pre_v1 (val_sv0 tranC 2)), (60, .pure pre_sv1 (val_sv1 windC 1)), (29, .pure pre_ints val_ints), (30, .pure pre_v1 val_offs), (27, .pure pre_valid val_valid)]
theorem awake_s {r : PV}  (h : (.bool true) = r) : Gets T_awake 0 (fun st => fin st rs_awake = some r) ic_awake [] (st0 65 []) := Gets.w (.lit (.lit (.lit (.lit (.lit (.lit (.lit (.lit (.lit (.lit (.lit (.lit (.lit (.lit (.lit (.lit (.lit (.lit (.lit (.lit (.lit (.lit (.lit (.lit (.lit (.lit (.lit (.lit (.lit (.lit (.lit (.lit (.lit (.lit (.lit (.lit (.lit (.lit (.lit (.lit (.lit (.lit (.lit (.lit (.lit (.lit (.lit (.lit (.lit (.lit (.lit (.nil)))))))))))))))))))))))))))))))))))))))))))))))))))) h (by kernel_rfl)
end Go.Pl

namespace Go.Pl
open Go.RowKit
theorem awake_run : ∀ ps, pre_nil ps = true → Gets T_awake 0 (fun st => fin st rs_awake = some (val_true ps)) ic_awake [] (st0 nt_awake ps) := by
  intro ps hp
  have : ps = [] := List.isEmpty_iff.1 hp
  subst this
  exact awake_s rfl
end Go.Pl

namespace Go.Pl
open Go.RowKit
open Enc (enc dec is)
open EncL (encL decL isL)
structure View where
  o : Int
  d : List Int
  s : List Int
  deriving DecidableEq
instance : Enc View where
  sz := 3
  enc v := .agg [enc v.o, enc v.d, enc v.s]
  dec | .agg [a, b, c] => ⟨dec a, dec b, dec c⟩ | _ => ⟨0, [], []⟩
  is | .agg [a, b, c] => is Int a && is (List Int) b && is (List Int) c | _ => false
  is_enc v := by simp
  dec_enc v := by simp
  sub p h := by
    cases p with
    | agg xs =>
      match xs, h with
      | [a, b, c], h =>
        simp only [Bool.and_eq_true] at h
        exact .agg (.cons (Enc.sub a h.1.1).2 (.cons (Enc.sub b h.1.2).2 (.cons (Enc.sub c h.2).2 .nil)))
    | _ => cases h
theorem enc_view (v : View) : enc v = .agg [.int .i64 v.o, .sl 1 false (nums v.d), .sl 1 false (nums v.s)] := rfl
def vrT (r : VR) : View × Int := (⟨r.1.1, r.1.2.1, r.1.2.2⟩, r.2)
theorem vrP_enc (r : VR) : vrP r = enc (vrT r) := rfl
def vOk (v : View) : Bool := decide (v.d.length ≤ 1000000) && decide (v.s.length ≤ 1000000)
theorem vOk_pre {v : View} (h : vOk v = true) : pre_view (enc v) = true := by
  simp only [vOk, Bool.and_eq_true, decide_eq_true_eq] at h
  exact pre_view_of v.o v.d v.s false false (by omega) (by omega)
def chgT (f : Chg) (rk : Nat) (v : View) (k : Int) : View × Int := vrT (stepB f rk v.o v.d v.s k)
def ofT (d : List Int) : View × Int := vrT (ofB d)
def offsT (v : View) : List Int := offsB v.o v.d v.s
@[simp] theorem vO_enc (v : View) : (enc v : PV).vO = v.o := rfl
@[simp] theorem vD_enc (v : View) : (enc v : PV).vD = v.d := by simp [enc_view]
@[simp] theorem vS_enc (v : View) : (enc v : PV).vS = v.s := by simp [enc_view]
theorem fits_enc {β : Type} [Enc β] (y : β) : Fits y (enc y) := ⟨Enc.is_enc y, Enc.dec_enc y⟩
end Go.Pl

namespace Go.Pl
open Go.RowKit
open Enc (enc dec is)
open EncL (encL decL isL)
set_option maxRecDepth 100000
def rowsB (l : List Int) (n s : Int) : Bool := (List.range l.length).all fun i => decide (l.getD i 0 = (i : Int).tdiv n * s + (i : Int).tmod n)
def rowsPre (l : List Int) (n s : Int) : Bool := decide (l.length ≤ 1000000) && (l.isEmpty || decide (1 ≤ n)) && decide (n ≤ 1000000) && decide (0 ≤ s) && decide (s ≤ 1000000)
def ic_rows : IC := (.seq (.reg [⟨(some 6), (.mv (.c (.bool false))), 0, none⟩] none) (.seq (.seq (.reg [⟨(some 8), (.mv (.t 0)), 0, none⟩, ⟨(some 9), (.len 1 (.t 8)), 0, none⟩, ⟨(some 10), (.mv (.c (.int .i64 0))), 0, none⟩] none) (.block 0 (.loop [10, 9, 0, 1, 2] (.seq (.reg [⟨(some 11), (.bin .num .lss (.t 10) (.t 9)), 0, none⟩] none) (.seq (.cond (.t 11) .skip (.exit 0)) (.seq (.block 1 (.seq (.reg [⟨(some 12), (.mv (.t 10)), 0, none⟩, ⟨(some 7), (.mv (.t 12)), 0, none⟩] none) (.seq (.reg [⟨(some 13), (.mv (.t 0)), 0, none⟩, ⟨(some 14), (.mv (.t 7)), 0, none⟩, ⟨(some 15), (.iaddr 1 (.t 13) (.t 14)), 0, none⟩, ⟨(some 16), (.load false [(.int .i64)] (.t 15)), 0, none⟩, ⟨(some 17), (.mv (.t 7)), 0, none⟩, ⟨(some 18), (.mv (.t 1)), 0, none⟩, ⟨(some 19), (.bin .num .quo (.t 17) (.t 18)), 0, none⟩, ⟨(some 20), (.mv (.t 2)), 0, none⟩, ⟨(some 21), (.bin .num .mul (.t 19) (.t 20)), 0, none⟩, ⟨(some 22), (.mv (.t 7)), 0, none⟩, ⟨(some 23), (.mv (.t 1)), 0, none⟩, ⟨(some 24), (.bin .num .rem (.t 22) (.t 23)), 0, none⟩, ⟨(some 25), (.bin .num .add (.t 21) (.t 24)), 0, none⟩, ⟨(some 26), (.bin .num .neq (.t 16) (.t 25)), 0, none⟩] (some [[], [], [0, 1], [2, 0, 1], [], [], [4, 5], [], [6, 7, 4, 5], [], [], [9, 10], [8, 11, 6, 7, 4, 5, 9, 10], [3, 12, 2, 0, 1, 8, 11, 6, 7, 4, 5, 9, 10]])) (.cond (.t 26) (.seq (.reg [⟨(some 6), (.mv (.c (.bool false))), 0, none⟩] none) .ret) .skip)))) (.reg [⟨(some 27), (.bin .num .add (.t 10) (.c (.int .i64 1))), 0, none⟩, ⟨(some 10), (.mv (.t 27)), 0, none⟩] none))))))) (.seq (.reg [⟨(some 6), (.mv (.c (.bool true))), 0, none⟩] none) .ret)))
def rs_rows : List IRes := [(.tmp 6)]
abbrev nt_rows : Nat := 28
def T_rows : Tab := tab []
theorem rows_s {G : PV → Prop} (l : List Int) (n s : Int) (h : At T_rows 0 (endP' rs_rows G) ic_rows 0 28 [(0, (.pv (.sl 1 false (List.map enc l)))), (1, (.pv (.int .i64 n))), (2, (.pv (.int .i64 s))), (9, (.pv (.int .i64 (↑(List.length (List.map enc l)) : Int)))), (10, (.pv (.int .i64 0)))] []) : Gets T_rows 0 (endP' rs_rows G) ic_rows [] (st0 28 [enc l, enc n, enc s]) := Gets.tp (.nil) h (by kernel_rfl)
theorem rows_h0 {G : PV → Prop} (l : List Int) (n s : Int) (i : Int) (h : if (decide (i < (↑(List.length l) : Int))) = true then (decide (0 ≤ i) && decide (Int.toNat i < List.length (List.map enc l)) && Enc.sz Int == 1) = true ∧ (∃ y0 : Int, AV.pv (PV.rptr (PV.cells (List.getD (List.map enc l) (Int.toNat i) default))) = AV.pv (PV.rptr (PV.cells ((enc) y0))) ∧ ((n != 0) = true ∧ ((n != 0) = true ∧ (if (PV.asInt (List.getD (PV.cells (enc y0)) 0 default) != IntKind.wrap IntKind.i64 (IntKind.wrap IntKind.i64 (IntKind.wrap IntKind.i64 (Int.tdiv i n) * s) + Int.tmod i n)) = true then G ((.bool false)) else (At T_rows 0 (endP' rs_rows G) ic_rows 0 28 [(0, (.pv (.sl 1 false (List.map enc l)))), (1, (.pv (.int .i64 n))), (2, (.pv (.int .i64 s))), (9, (.pv (.int .i64 (↑(List.length l) : Int)))), (10, (.pv (.int .i64 (IntKind.wrap IntKind.i64 (i + 1)))))] []))))) else (G ((.bool true)))) : At T_rows 0 (endP' rs_rows G) ic_rows 0 28 [(0, .pv (enc l)), (1, .pv (enc n)), (2, .pv (enc s)), (9, .pv (.int .i64 l.length)), (10, .pv (.int .i64 i))] [] := At.tp (.lit (.ask (.req (.abs (Int) (fun YY => AV.pv (PV.rptr (PV.cells ((enc) YY)))) (.lit (.req (.lit (.req (.lit (.lit (.ask (.nil) (.lit (.nil))))))))))) (.nil))) h (by kernel_rfl)
def ic_lparts : IC := (.seq (.reg [⟨(some 6), (.mv (.c (.bool false))), 0, none⟩] none) (.seq (.seq (.reg [⟨(some 26), (.call (.c (.fn 20)) []), 0, none⟩, ⟨(some 27), (.un .not (.t 26)), 2, none⟩] none) (.cond (.t 27) (.seq (.reg [⟨(some 6), (.mv (.c (.bool false))), 0, none⟩] none) .ret) .skip)) (.seq (.reg [⟨(some 28), (.mv (.t 0)), 0, none⟩, ⟨(some 29), (.conv .i64 (.t 28)), 0, none⟩, ⟨(some 30), (.bin .num .rem (.t 29) (.c (.int .i64 61))), 0, none⟩, ⟨(some 31), (.mv (.t 2)), 0, none⟩, ⟨(some 32), (.conv .i64 (.t 31)), 0, none⟩, ⟨(some 33), (.bin .num .rem (.t 32) (.c (.int .i64 8))), 0, none⟩, ⟨(some 34), (.bin .num .add (.t 33) (.c (.int .i64 1))), 0, none⟩, ⟨(some 7), (.mv (.t 30)), 0, none⟩, ⟨(some 8), (.mv (.t 34)), 0, none⟩] none) (.seq (.reg [⟨(some 35), (.mv (.t 1)), 0, none⟩, ⟨(some 36), (.conv .i64 (.t 35)), 0, none⟩, ⟨(some 37), (.mv (.t 7)), 0, none⟩, ⟨(some 38), (.bin .num .add (.t 37) (.c (.int .i64 1))), 0, none⟩, ⟨(some 39), (.bin .num .rem (.t 36) (.t 38)), 0, none⟩, ⟨(some 9), (.mv (.t 39)), 0, none⟩] none) (.seq (.reg [⟨(some 41), (.mv (.t 7)), 0, none⟩, ⟨(some 42), (.bslice 3 1 1 (.int .i64 0) [(0, (.t 41))]), 0, none⟩, ⟨(some 43), (.call (.c (.fn 22)) [(.t 42)]), 1, none⟩, ⟨(some 40), (.mv (.t 43)), 3, none⟩, ⟨(some 44), (.extract (.t 40) 0), 3, none⟩, ⟨(some 45), (.extract (.t 40) 1), 3, none⟩, ⟨(some 10), (.alloc (.agg [(.int .i64 0), (.sl 0 true []), (.sl 0 true [])])), 3, none⟩, ⟨none, (.store 3 (.t 10) (.t 44)), 4, none⟩, ⟨(some 11), (.mv (.t 45)), 4, none⟩] none) (.seq (.reg [⟨(some 47), (.load true [(.int .i64), (.sl 1), (.sl 1)] (.t 10)), 0, none⟩, ⟨(some 48), (.mv (.t 9)), 0, none⟩, ⟨(some 49), (.call (.c (.fn 58)) [(.t 47), (.t 48)]), 0, none⟩, ⟨(some 46), (.mv (.t 49)), 2, none⟩, ⟨(some 50), (.extract (.t 46) 0), 2, none⟩, ⟨(some 51), (.extract (.t 46) 1), 2, none⟩, ⟨(some 12), (.alloc (.agg [(.int .i64 0), (.sl 0 true []), (.sl 0 true [])])), 2, none⟩, ⟨none, (.store 3 (.t 12) (.t 50)), 3, none⟩, ⟨(some 13), (.mv (.t 51)), 3, none⟩] none) (.seq (.reg [⟨(some 53), (.load true [(.int .i64), (.sl 1), (.sl 1)] (.t 10)), 0, none⟩, ⟨(some 54), (.mv (.t 9)), 0, none⟩, ⟨(some 55), (.call (.c (.fn 59)) [(.t 53), (.t 54)]), 0, none⟩, ⟨(some 52), (.mv (.t 55)), 2, none⟩, ⟨(some 56), (.extract (.t 52) 0), 2, none⟩, ⟨(some 57), (.extract (.t 52) 1), 2, none⟩, ⟨(some 14), (.alloc (.agg [(.int .i64 0), (.sl 0 true []), (.sl 0 true [])])), 2, none⟩, ⟨none, (.store 3 (.t 14) (.t 56)), 3, none⟩, ⟨(some 15), (.mv (.t 57)), 3, none⟩] none) (.seq (.reg [⟨(some 59), (.load true [(.int .i64), (.sl 1), (.sl 1)] (.t 10)), 0, none⟩, ⟨(some 60), (.mv (.t 9)), 0, none⟩, ⟨(some 61), (.call (.c (.fn 60)) [(.t 59), (.t 60)]), 0, none⟩, ⟨(some 58), (.mv (.t 61)), 2, none⟩, ⟨(some 62), (.extract (.t 58) 0), 2, none⟩, ⟨(some 63), (.extract (.t 58) 1), 2, none⟩, ⟨(some 16), (.alloc (.agg [(.int .i64 0), (.sl 0 true []), (.sl 0 true [])])), 2, none⟩, ⟨none, (.store 3 (.t 16) (.t 62)), 3, none⟩, ⟨(some 17), (.mv (.t 63)), 3, none⟩] none) (.seq (.seq (.reg [⟨(some 64), (.mv (.t 11)), 0, none⟩, ⟨(some 65), (.bin .num .neq (.t 64) (.c (.int .i64 0))), 0, none⟩, ⟨(some 66), (.mv (.t 65)), 0, none⟩, ⟨(some 67), (.mv (.t 13)), 0, (some (66, false))⟩, ⟨(some 68), (.bin .num .neq (.t 67) (.c (.int .i64 0))), 0, (some (66, false))⟩, ⟨(some 69), (.pick (.t 66) (.c (.bool true)) (.t 68)), 0, none⟩, ⟨(some 70), (.mv (.t 69)), 0, none⟩, ⟨(some 71), (.mv (.t 15)), 0, (some (70, false))⟩, ⟨(some 72), (.bin .num .neq (.t 71) (.c (.int .i64 0))), 0, (some (70, false))⟩, ⟨(some 73), (.pick (.t 70) (.c (.bool true)) (.t 72)), 0, none⟩, ⟨(some 74), (.mv (.t 73)), 0, none⟩, ⟨(some 75), (.mv (.t 17)), 0, (some (74, false))⟩, ⟨(some 76), (.bin .num .neq (.t 75) (.c (.int .i64 0))), 0, (some (74, false))⟩, ⟨(some 77), (.pick (.t 74) (.c (.bool true)) (.t 76)), 0, none⟩, ⟨(some 78), (.mv (.t 77)), 0, none⟩, ⟨(some 79), (.bslice 3 1 0 (.int .i64 0) []), 0, (some (78, false))⟩, ⟨(some 80), (.load true [(.int .i64), (.sl 1), (.sl 1)] (.t 12)), 1, (some (78, false))⟩, ⟨(some 81), (.call (.c (.fn 30)) [(.t 80)]), 1, (some (78, false))⟩, ⟨(some 82), (.append 3 1 8 (.t 79) (.t 81)), 3, (some (78, false))⟩, ⟨(some 83), (.load true [(.int .i64), (.sl 1), (.sl 1)] (.t 14)), 4, (some (78, false))⟩, ⟨(some 84), (.call (.c (.fn 30)) [(.t 83)]), 4, (some (78, false))⟩, ⟨(some 85), (.append 3 1 8 (.t 82) (.t 84)), 6, (some (78, false))⟩, ⟨(some 86), (.load true [(.int .i64), (.sl 1), (.sl 1)] (.t 10)), 7, (some (78, false))⟩, ⟨(some 87), (.call (.c (.fn 30)) [(.t 86)]), 7, (some (78, false))⟩, ⟨(some 88), (.call (.c (.fn 29)) [(.t 85), (.t 87)]), 9, (some (78, false))⟩, ⟨(some 89), (.un .not (.t 88)), 11, (some (78, false))⟩, ⟨(some 90), (.pick (.t 78) (.c (.bool true)) (.t 89)), 11, none⟩] (some [[], [0], [1, 0], [2, 1, 0], [3, 2, 1, 0], [2, 4, 1, 0, 3], [5, 2, 4, 1, 0, 3], [6, 5, 2, 4, 1, 0, 3], [7, 6, 5, 2, 4, 1, 0, 3], [6, 8, 5, 2, 4, 1, 0, 3, 7], [9, 6, 8, 5, 2, 4, 1, 0, 3, 7], [10, 9, 6, 8, 5, 2, 4, 1, 0, 3, 7], [11, 10, 9, 6, 8, 5, 2, 4, 1, 0, 3, 7], [10, 12, 9, 6, 8, 5, 2, 4, 1, 0, 3, 7, 11], [13, 10, 12, 9, 6, 8, 5, 2, 4, 1, 0, 3, 7, 11], [14, 13, 10, 12, 9, 6, 8, 5, 2, 4, 1, 0, 3, 7, 11], [14, 13, 10, 12, 9, 6, 8, 5, 2, 4, 1, 0, 3, 7, 11], [16, 14, 13, 10, 12, 9, 6, 8, 5, 2, 4, 1, 0, 3, 7, 11], [15, 17, 14, 13, 10, 12, 9, 6, 8, 5, 2, 4, 1, 0, 3, 7, 11, 16], [14, 13, 10, 12, 9, 6, 8, 5, 2, 4, 1, 0, 3, 7, 11], [19, 18, 14, 13, 10, 12, 9, 6, 8, 5, 2, 4, 1, 0, 3, 7, 11, 15, 17, 16], [18, 20, 14, 15, 17, 13, 10, 12, 9, 6, 8, 5, 2, 4, 1, 0, 3, 7, 11, 16, 19], [14, 13, 10, 12, 9, 6, 8, 5, 2, 4, 1, 0, 3, 7, 11], [22, 21, 14, 13, 10, 12, 9, 6, 8, 5, 2, 4, 1, 0, 3, 7, 11, 18, 20, 15, 17, 16, 19], [21, 23, 14, 18, 20, 15, 17, 13, 10, 12, 9, 6, 8, 5, 2, 4, 1, 0, 3, 7, 11, 16, 19, 22], [24, 14, 21, 23, 18, 20, 15, 17, 13, 10, 12, 9, 6, 8, 5, 2, 4, 1, 0, 3, 7, 11, 16, 19, 22], [14, 25, 13, 10, 12, 9, 6, 8, 5, 2, 4, 1, 0, 3, 7, 11, 24, 21, 23, 18, 20, 15, 17, 16, 19, 22]])) (.cond (.t 90) (.seq (.reg [⟨(some 6), (.mv (.c (.bool false))), 0, none⟩] none) .ret) .skip)) (.seq (.seq (.reg [⟨(some 91), (.faddr 1 (.t 16)), 0, none⟩, ⟨(some 92), (.load false [(.sl 1)] (.t 91)), 0, none⟩, ⟨(some 93), (.mv (.t 7)), 0, none⟩, ⟨(some 94), (.mv (.t 9)), 0, none⟩, ⟨(some 95), (.bin .num .sub (.t 93) (.t 94)), 0, none⟩, ⟨(some 96), (.bin .num .add (.t 95) (.c (.int .i64 1))), 0, none⟩, ⟨(some 97), (.mv (.t 9)), 0, none⟩, ⟨(some 98), (.bslice 3 1 2 (.int .i64 0) [(0, (.t 96)), (1, (.t 97))]), 0, none⟩, ⟨(some 99), (.call (.c (.fn 29)) [(.t 92), (.t 98)]), 1, none⟩, ⟨(some 100), (.un .not (.t 99)), 3, none⟩, ⟨(some 101), (.mv (.t 100)), 3, none⟩, ⟨(some 102), (.load true [(.int .i64), (.sl 1), (.sl 1)] (.t 16)), 3, (some (101, false))⟩, ⟨(some 103), (.call (.c (.fn 30)) [(.t 102)]), 3, (some (101, false))⟩, ⟨(some 104), (.mv (.t 9)), 5, (some (101, false))⟩, ⟨(some 105), (.call (.c (.fn 61)) [(.t 103), (.t 104), (.c (.int .i64 1))]), 5, (some (101, false))⟩, ⟨(some 106), (.un .not (.t 105)), 7, (some (101, false))⟩, ⟨(some 107), (.pick (.t 101) (.c (.bool true)) (.t 106)), 7, none⟩] none) (.cond (.t 107) (.seq (.reg [⟨(some 6), (.mv (.c (.bool false))), 0, none⟩] none) .ret) .skip)) (.seq (.reg [⟨(some 109), (.load true [(.int .i64), (.sl 1), (.sl 1)] (.t 10)), 0, none⟩, ⟨(some 110), (.mv (.t 8)), 0, none⟩, ⟨(some 111), (.call (.c (.fn 62)) [(.t 109), (.t 110)]), 0, none⟩, ⟨(some 108), (.mv (.t 111)), 2, none⟩, ⟨(some 112), (.extract (.t 108) 0), 2, none⟩, ⟨(some 113), (.extract (.t 108) 1), 2, none⟩, ⟨(some 18), (.alloc (.agg [(.int .i64 0), (.sl 0 true []), (.sl 0 true [])])), 2, none⟩, ⟨none, (.store 3 (.t 18) (.t 112)), 3, none⟩, ⟨(some 19), (.mv (.t 113)), 3, none⟩] none) (.seq (.seq (.reg [⟨(some 114), (.mv (.t 19)), 0, none⟩, ⟨(some 115), (.bin .num .eql (.t 114) (.c (.int .i64 0))), 0, none⟩, ⟨(some 116), (.mv (.t 7)), 0, none⟩, ⟨(some 117), (.mv (.t 8)), 0, none⟩, ⟨(some 118), (.bin .num .rem (.t 116) (.t 117)), 0, none⟩, ⟨(some 119), (.bin .num .eql (.t 118) (.c (.int .i64 0))), 0, none⟩, ⟨(some 120), (.bin .bool .neq (.t 115) (.t 119)), 0, none⟩, ⟨(some 121), (.mv (.t 120)), 0, none⟩, ⟨(some 122), (.mv (.t 19)), 0, (some (121, false))⟩, ⟨(some 123), (.bin .num .eql (.t 122) (.c (.int .i64 0))), 0, (some (121, false))⟩, ⟨(some 124), (.mv (.t 123)), 0, (some (121, false))⟩, ⟨(some 125), (.load true [(.int .i64), (.sl 1), (.sl 1)] (.t 18)), 0, (some (124, true))⟩, ⟨(some 126), (.call (.c (.fn 30)) [(.t 125)]), 0, (some (124, true))⟩, ⟨(some 127), (.mv (.t 8)), 2, (some (124, true))⟩, ⟨(some 128), (.mv (.t 8)), 2, (some (124, true))⟩, ⟨(some 129), (.call (.c (.fn 61)) [(.t 126), (.t 127), (.t 128)]), 2, (some (124, true))⟩, ⟨(some 130), (.un .not (.t 129)), 4, (some (124, true))⟩, ⟨(some 131), (.pick (.t 124) (.t 130) (.c (.bool false))), 4, (some (121, false))⟩, ⟨(some 132), (.pick (.t 121) (.c (.bool true)) (.t 131)), 4, none⟩] none) (.cond (.t 132) (.seq (.reg [⟨(some 6), (.mv (.c (.bool false))), 0, none⟩] none) .ret) .skip)) (.seq (.reg [⟨(some 134), (.mv (.t 8)), 0, none⟩, ⟨(some 135), (.mv (.t 8)), 0, none⟩, ⟨(some 136), (.bslice 3 1 2 (.int .i64 0) [(0, (.t 134)), (1, (.t 135))]), 0, none⟩, ⟨(some 137), (.call (.c (.fn 22)) [(.t 136)]), 1, none⟩, ⟨(some 133), (.mv (.t 137)), 3, none⟩, ⟨(some 138), (.extract (.t 133) 0), 3, none⟩, ⟨(some 139), (.extract (.t 133) 1), 3, none⟩, ⟨(some 20), (.alloc (.agg [(.int .i64 0), (.sl 0 true []), (.sl 0 true [])])), 3, none⟩, ⟨none, (.store 3 (.t 20) (.t 138)), 4, none⟩, ⟨(some 21), (.mv (.t 139)), 4, none⟩] none) (.seq (.reg [⟨(some 141), (.load true [(.int .i64), (.sl 1), (.sl 1)] (.t 20)), 0, none⟩, ⟨(some 142), (.call (.c (.fn 63)) [(.t 141)]), 0, none⟩, ⟨(some 140), (.mv (.t 142)), 2, none⟩, ⟨(some 143), (.extract (.t 140) 0), 2, none⟩, ⟨(some 144), (.extract (.t 140) 1), 2, none⟩, ⟨(some 22), (.alloc (.agg [(.int .i64 0), (.sl 0 true []), (.sl 0 true [])])), 2, none⟩, ⟨none, (.store 3 (.t 22) (.t 143)), 3, none⟩, ⟨(some 23), (.mv (.t 144)), 3, none⟩] none) (.seq (.reg [⟨(some 145), (.load true [(.int .i64), (.sl 1), (.sl 1)] (.t 22)), 0, none⟩, ⟨(some 146), (.call (.c (.fn 30)) [(.t 145)]), 0, none⟩, ⟨(some 24), (.mv (.t 146)), 2, none⟩] none) (.seq (.seq (.reg [⟨(some 147), (.mv (.t 24)), 0, none⟩, ⟨(some 148), (.len 1 (.t 147)), 0, none⟩, ⟨(some 149), (.mv (.c (.int .i64 0))), 0, none⟩] none) (.block 0 (.loop [149, 148, 24, 8, 21, 23] (.seq (.reg [⟨(some 150), (.bin .num .lss (.t 149) (.t 148)), 0, none⟩] none) (.seq (.cond (.t 150) .skip (.exit 0)) (.seq (.block 1 (.seq (.reg [⟨(some 151), (.mv (.t 149)), 0, none⟩, ⟨(some 25), (.mv (.t 151)), 0, none⟩] none) (.seq (.reg [⟨(some 152), (.mv (.t 24)), 0, none⟩, ⟨(some 153), (.mv (.t 25)), 0, none⟩, ⟨(some 154), (.iaddr 1 (.t 152) (.t 153)), 0, none⟩, ⟨(some 155), (.load false [(.int .i64)] (.t 154)), 0, none⟩, ⟨(some 156), (.mv (.t 25)), 0, none⟩, ⟨(some 157), (.mv (.t 8)), 0, none⟩, ⟨(some 158), (.bin .num .mul (.t 156) (.t 157)), 0, none⟩, ⟨(some 159), (.mv (.t 25)), 0, none⟩, ⟨(some 160), (.bin .num .add (.t 158) (.t 159)), 0, none⟩, ⟨(some 161), (.bin .num .neq (.t 155) (.t 160)), 0, none⟩] none) (.cond (.t 161) (.seq (.reg [⟨(some 6), (.mv (.c (.bool false))), 0, none⟩] none) .ret) .skip)))) (.reg [⟨(some 162), (.bin .num .add (.t 149) (.c (.int .i64 1))), 0, none⟩, ⟨(some 149), (.mv (.t 162)), 0, none⟩] none))))))) (.seq (.reg [⟨(some 163), (.mv (.t 21)), 0, none⟩, ⟨(some 164), (.bin .num .eql (.t 163) (.c (.int .i64 0))), 0, none⟩, ⟨(some 165), (.mv (.t 164)), 0, none⟩, ⟨(some 166), (.mv (.t 23)), 0, (some (165, true))⟩, ⟨(some 167), (.bin .num .eql (.t 166) (.c (.int .i64 0))), 0, (some (165, true))⟩, ⟨(some 168), (.pick (.t 165) (.t 167) (.c (.bool false))), 0, none⟩, ⟨(some 169), (.mv (.t 168)), 0, none⟩, ⟨(some 170), (.mv (.t 24)), 0, (some (169, true))⟩, ⟨(some 171), (.len 1 (.t 170)), 0, (some (169, true))⟩, ⟨(some 172), (.mv (.t 8)), 0, (some (169, true))⟩, ⟨(some 173), (.bin .num .eql (.t 171) (.t 172)), 0, (some (169, true))⟩, ⟨(some 174), (.pick (.t 169) (.t 173) (.c (.bool false))), 0, none⟩, ⟨(some 6), (.mv (.t 174)), 0, none⟩] none) .ret)))))))))))))))))
def rs_lparts : List IRes := [(.tmp 6)]
abbrev nt_lparts : Nat := 175
def T_lparts : Tab := tab [(20, .pure (preT (fun _ : Unit => true)) (valT (fun _ : Unit => true))), (22, .pure (preT (fun _ : List Int × Unit => true)) (valT (fun x : List Int × Unit => ofT x.1))), (58, .pure (preT (fun x : View × Int × Unit => vOk x.1)) (valT (fun x : View × Int × Unit => chgT takeC 1 x.1 x.2.1))), (59, .pure (preT (fun x : View × Int × Unit => vOk x.1)) (valT (fun x : View × Int × Unit => chgT dropC 1 x.1 x.2.1))), (60, .pure (preT (fun x : View × Int × Unit => vOk x.1)) (valT (fun x : View × Int × Unit => chgT windC 1 x.1 x.2.1))), (62, .pure (preT (fun x : View × Int × Unit => vOk x.1)) (valT (fun x : View × Int × Unit => chgT chunkC 1 x.1 x.2.1))), (63, .pure (preT (fun x : View × Unit => vOk x.1)) (valT (fun x : View × Unit => chgT diagC 2 x.1 0))), (30, .pure (preT (fun x : View × Unit => vOk x.1)) (valT (fun x : View × Unit => offsT x.1))), (29, .pure (preT (fun x : List Int × List Int × Unit => decide (x.1.length ≤ 1000000))) (valT (fun x : List Int × List Int × Unit => decide (x.1 = x.2.1)))), (61, .pure (preT (fun x : List Int × Int × Int × Unit => rowsPre x.1 x.2.1 x.2.2.1)) (valT (fun x : List Int × Int × Int × Unit => rowsB x.1 x.2.1 x.2.2.1)))]
theorem lparts_s {G : PV → Prop} (n k c : UInt8) (h : ∃ y0 : Bool, AV.pv (valT (fun (x : Unit) => true) []) = AV.pv (enc y0) ∧ (if (!y0) = true then G ((.bool false)) else ((IntKind.wrap IntKind.i64 (Int.tmod (IntKind.wrap IntKind.i64 (↑(UInt8.toNat n) : Int)) 61 + 1) != 0) = true ∧ (∃ y1 : View × Int, AV.pv (valT (fun (x : List Int × Unit) => ofT (Prod.fst x)) [(.sl 1 false [(.int .i64 (Int.tmod (IntKind.wrap IntKind.i64 (↑(UInt8.toNat n) : Int)) 61))])]) = AV.pv (enc y1) ∧ ((Go.Pl.preT (fun (x : View × Int × Unit) => vOk (Prod.fst x)) [(.agg [(.int .i64 (View.o (Prod.fst y1))), (.sl 1 false (List.map enc (View.d (Prod.fst y1)))), (.sl 1 false (List.map enc (View.s (Prod.fst y1))))]), (.int .i64 (Int.tmod (IntKind.wrap IntKind.i64 (↑(UInt8.toNat k) : Int)) (IntKind.wrap IntKind.i64 (Int.tmod (IntKind.wrap IntKind.i64 (↑(UInt8.toNat n) : Int)) 61 + 1))))]) = true ∧ (∃ y2 : View × Int, AV.pv (valT (fun (x : View × Int × Unit) => chgT takeC 1 (Prod.fst x) (Prod.fst (Prod.snd x))) [(.agg [(.int .i64 (View.o (Prod.fst y1))), (.sl 1 false (List.map enc (View.d (Prod.fst y1)))), (.sl 1 false (List.map enc (View.s (Prod.fst y1))))]), (.int .i64 (Int.tmod (IntKind.wrap IntKind.i64 (↑(UInt8.toNat k) : Int)) (IntKind.wrap IntKind.i64 (Int.tmod (IntKind.wrap IntKind.i64 (↑(UInt8.toNat n) : Int)) 61 + 1))))]) = AV.pv (enc y2) ∧ ((Go.Pl.preT (fun (x : View × Int × Unit) => vOk (Prod.fst x)) [(.agg [(.int .i64 (View.o (Prod.fst y1))), (.sl 1 false (List.map enc (View.d (Prod.fst y1)))), (.sl 1 false (List.map enc (View.s (Prod.fst y1))))]), (.int .i64 (Int.tmod (IntKind.wrap IntKind.i64 (↑(UInt8.toNat k) : Int)) (IntKind.wrap IntKind.i64 (Int.tmod (IntKind.wrap IntKind.i64 (↑(UInt8.toNat n) : Int)) 61 + 1))))]) = true ∧ (∃ y3 : View × Int, AV.pv (valT (fun (x : View × Int × Unit) => chgT dropC 1 (Prod.fst x) (Prod.fst (Prod.snd x))) [(.agg [(.int .i64 (View.o (Prod.fst y1))), (.sl 1 false (List.map enc (View.d (Prod.fst y1)))), (.sl 1 false (List.map enc (View.s (Prod.fst y1))))]), (.int .i64 (Int.tmod (IntKind.wrap IntKind.i64 (↑(UInt8.toNat k) : Int)) (IntKind.wrap IntKind.i64 (Int.tmod (IntKind.wrap IntKind.i64 (↑(UInt8.toNat n) : Int)) 61 + 1))))]) = AV.pv (enc y3) ∧ ((Go.Pl.preT (fun (x : View × Int × Unit) => vOk (Prod.fst x)) [(.agg [(.int .i64 (View.o (Prod.fst y1))), (.sl 1 false (List.map enc (View.d (Prod.fst y1)))), (.sl 1 false (List.map enc (View.s (Prod.fst y1))))]), (.int .i64 (Int.tmod (IntKind.wrap IntKind.i64 (↑(UInt8.toNat k) : Int)) (IntKind.wrap IntKind.i64 (Int.tmod (IntKind.wrap IntKind.i64 (↑(UInt8.toNat n) : Int)) 61 + 1))))]) = true ∧ (∃ y4 : View × Int, AV.pv (valT (fun (x : View × Int × Unit) => chgT windC 1 (Prod.fst x) (Prod.fst (Prod.snd x))) [(.agg [(.int .i64 (View.o (Prod.fst y1))), (.sl 1 false (List.map enc (View.d (Prod.fst y1)))), (.sl 1 false (List.map enc (View.s (Prod.fst y1))))]), (.int .i64 (Int.tmod (IntKind.wrap IntKind.i64 (↑(UInt8.toNat k) : Int)) (IntKind.wrap IntKind.i64 (Int.tmod (IntKind.wrap IntKind.i64 (↑(UInt8.toNat n) : Int)) 61 + 1))))]) = AV.pv (enc y4) ∧ (if (Prod.snd y1 != 0) = true then G ((.bool false)) else (if (Prod.snd y2 != 0) = true then G ((.bool false)) else (if (Prod.snd y3 != 0) = true then G ((.bool false)) else (if (Prod.snd y4 != 0) = true then G ((.bool false)) else ((Go.Pl.preT (fun (x : View × Unit) => vOk (Prod.fst x)) [(.agg [(.int .i64 (View.o (Prod.fst y2))), (.sl 1 false (List.map enc (View.d (Prod.fst y2)))), (.sl 1 false (List.map enc (View.s (Prod.fst y2))))])]) = true ∧ (∃ y5 : List Int, AV.pv (valT (fun (x : View × Unit) => offsT (Prod.fst x)) [(.agg [(.int .i64 (View.o (Prod.fst y2))), (.sl 1 false (List.map enc (View.d (Prod.fst y2)))), (.sl 1 false (List.map enc (View.s (Prod.fst y2))))])]) = AV.pv (enc y5) ∧ ((List.isEmpty (List.map enc y5) || Enc.sz Int == 1) = true ∧ ((List.length ([] : List PV) == 0 && 0 == 0 && decide ((0 + List.length (List.map enc y5)) * 8 ≤ 1099511627776) && decide (0 + List.length (List.map enc y5) ≤ 1099511627776)) = true ∧ ((Go.Pl.preT (fun (x : View × Unit) => vOk (Prod.fst x)) [(.agg [(.int .i64 (View.o (Prod.fst y3))), (.sl 1 false (List.map enc (View.d (Prod.fst y3)))), (.sl 1 false (List.map enc (View.s (Prod.fst y3))))])]) = true ∧ (∃ y6 : List Int, AV.pv (valT (fun (x : View × Unit) => offsT (Prod.fst x)) [(.agg [(.int .i64 (View.o (Prod.fst y3))), (.sl 1 false (List.map enc (View.d (Prod.fst y3)))), (.sl 1 false (List.map enc (View.s (Prod.fst y3))))])]) = AV.pv (enc y6) ∧ ((List.isEmpty (List.map enc y6) || Enc.sz Int == 1) = true ∧ ((List.length (([] : List PV) ++ List.map enc y5) == 0 + List.length (List.map enc y5) && 0 + List.length (List.map enc y5) == 0 + List.length (List.map enc y5) && decide ((0 + List.length (List.map enc y5) + List.length (List.map enc y6)) * 8 ≤ 1099511627776) && decide (0 + List.length (List.map enc y5) + List.length (List.map enc y6) ≤ 1099511627776)) = true ∧ ((Go.Pl.preT (fun (x : View × Unit) => vOk (Prod.fst x)) [(.agg [(.int .i64 (View.o (Prod.fst y1))), (.sl 1 false (List.map enc (View.d (Prod.fst y1)))), (.sl 1 false (List.map enc (View.s (Prod.fst y1))))])]) = true ∧ (∃ y7 : List Int, AV.pv (valT (fun (x : View × Unit) => offsT (Prod.fst x)) [(.agg [(.int .i64 (View.o (Prod.fst y1))), (.sl 1 false (List.map enc (View.d (Prod.fst y1)))), (.sl 1 false (List.map enc (View.s (Prod.fst y1))))])]) = AV.pv (enc y7) ∧ ((List.length (([] : List PV) ++ List.map enc y5 ++ List.map enc y6) == 0 + List.length (List.map enc y5) + List.length (List.map enc y6)) = true ∧ ((Go.Pl.preT (fun (x : List Int × List Int × Unit) => decide (List.length (Prod.fst x) ≤ 1000000)) [(.sl 1 false (List.drop 0 (List.take (0 + List.length (List.map enc y5) + List.length (List.map enc y6)) (([] : List PV) ++ List.map enc y5 ++ List.map enc y6)))), (.sl 1 false (List.map enc y7))]) = true ∧ (∃ y8 : Bool, AV.pv (valT (fun (x : List Int × List Int × Unit) => decide (Prod.fst x = Prod.fst (Prod.snd x))) [(.sl 1 false (List.drop 0 (List.take (0 + List.length (List.map enc y5) + List.length (List.map enc y6)) (([] : List PV) ++ List.map enc y5 ++ List.map enc y6)))), (.sl 1 false (List.map enc y7))]) = AV.pv (enc y8) ∧ (if (!y8) = true then G ((.bool false)) else ((Go.Pl.preT (fun (x : List Int × List Int × Unit) => decide (List.length (Prod.fst x) ≤ 1000000)) [(.sl 1 false (List.map enc (View.d (Prod.fst y4)))), (.sl 1 false [(.int .i64 (IntKind.wrap IntKind.i64 (IntKind.wrap IntKind.i64 (Int.tmod (IntKind.wrap IntKind.i64 (↑(UInt8.toNat n) : Int)) 61 - Int.tmod (IntKind.wrap IntKind.i64 (↑(UInt8.toNat k) : Int)) (IntKind.wrap IntKind.i64 (Int.tmod (IntKind.wrap IntKind.i64 (↑(UInt8.toNat n) : Int)) 61 + 1))) + 1))), (.int .i64 (Int.tmod (IntKind.wrap IntKind.i64 (↑(UInt8.toNat k) : Int)) (IntKind.wrap IntKind.i64 (Int.tmod (IntKind.wrap IntKind.i64 (↑(UInt8.toNat n) : Int)) 61 + 1))))])]) = true ∧ (∃ y9 : Bool, AV.pv (valT (fun (x : List Int × List Int × Unit) => decide (Prod.fst x = Prod.fst (Prod.snd x))) [(.sl 1 false (List.map enc (View.d (Prod.fst y4)))), (.sl 1 false [(.int .i64 (IntKind.wrap IntKind.i64 (IntKind.wrap IntKind.i64 (Int.tmod (IntKind.wrap IntKind.i64 (↑(UInt8.toNat n) : Int)) 61 - Int.tmod (IntKind.wrap IntKind.i64 (↑(UInt8.toNat k) : Int)) (IntKind.wrap IntKind.i64 (Int.tmod (IntKind.wrap IntKind.i64 (↑(UInt8.toNat n) : Int)) 61 + 1))) + 1))), (.int .i64 (Int.tmod (IntKind.wrap IntKind.i64 (↑(UInt8.toNat k) : Int)) (IntKind.wrap IntKind.i64 (Int.tmod (IntKind.wrap IntKind.i64 (↑(UInt8.toNat n) : Int)) 61 + 1))))])]) = AV.pv (enc y9) ∧ (if (!y9) = true then G ((.bool false)) else ((Go.Pl.preT (fun (x : View × Unit) => vOk (Prod.fst x)) [(.agg [(.int .i64 (View.o (Prod.fst y4))), (.sl 1 false (List.map enc (View.d (Prod.fst y4)))), (.sl 1 false (List.map enc (View.s (Prod.fst y4))))])]) = true ∧ (∃ y10 : List Int, AV.pv (valT (fun (x : View × Unit) => offsT (Prod.fst x)) [(.agg [(.int .i64 (View.o (Prod.fst y4))), (.sl 1 false (List.map enc (View.d (Prod.fst y4)))), (.sl 1 false (List.map enc (View.s (Prod.fst y4))))])]) = AV.pv (enc y10) ∧ ((Go.Pl.preT (fun (x : List Int × Int × Int × Unit) => rowsPre (Prod.fst x) (Prod.fst (Prod.snd x)) (Prod.fst (Prod.snd (Prod.snd x)))) [(.sl 1 false (List.map enc y10)), (.int .i64 (Int.tmod (IntKind.wrap IntKind.i64 (↑(UInt8.toNat k) : Int)) (IntKind.wrap IntKind.i64 (Int.tmod (IntKind.wrap IntKind.i64 (↑(UInt8.toNat n) : Int)) 61 + 1)))), (.int .i64 1)]) = true ∧ (∃ y11 : Bool, AV.pv (valT (fun (x : List Int × Int × Int × Unit) => rowsB (Prod.fst x) (Prod.fst (Prod.snd x)) (Prod.fst (Prod.snd (Prod.snd x)))) [(.sl 1 false (List.map enc y10)), (.int .i64 (Int.tmod (IntKind.wrap IntKind.i64 (↑(UInt8.toNat k) : Int)) (IntKind.wrap IntKind.i64 (Int.tmod (IntKind.wrap IntKind.i64 (↑(UInt8.toNat n) : Int)) 61 + 1)))), (.int .i64 1)]) = AV.pv (enc y11) ∧ (if (!y11) = true then G ((.bool false)) else ((Go.Pl.preT (fun (x : View × Int × Unit) => vOk (Prod.fst x)) [(.agg [(.int .i64 (View.o (Prod.fst y1))), (.sl 1 false (List.map enc (View.d (Prod.fst y1)))), (.sl 1 false (List.map enc (View.s (Prod.fst y1))))]), (.int .i64 (IntKind.wrap IntKind.i64 (Int.tmod (IntKind.wrap IntKind.i64 (↑(UInt8.toNat c) : Int)) 8 + 1)))]) = true ∧ (∃ y12 : View × Int, AV.pv (valT (fun (x : View × Int × Unit) => chgT chunkC 1 (Prod.fst x) (Prod.fst (Prod.snd x))) [(.agg [(.int .i64 (View.o (Prod.fst y1))), (.sl 1 false (List.map enc (View.d (Prod.fst y1)))), (.sl 1 false (List.map enc (View.s (Prod.fst y1))))]), (.int .i64 (IntKind.wrap IntKind.i64 (Int.tmod (IntKind.wrap IntKind.i64 (↑(UInt8.toNat c) : Int)) 8 + 1)))]) = AV.pv (enc y12) ∧ ((IntKind.wrap IntKind.i64 (Int.tmod (IntKind.wrap IntKind.i64 (↑(UInt8.toNat c) : Int)) 8 + 1) != 0) = true ∧ (if (!(Prod.snd y12 == 0) == (Int.tmod (Int.tmod (IntKind.wrap IntKind.i64 (↑(UInt8.toNat n) : Int)) 61) (IntKind.wrap IntKind.i64 (Int.tmod (IntKind.wrap IntKind.i64 (↑(UInt8.toNat c) : Int)) 8 + 1)) == 0)) = true then G ((.bool false)) else (if (Prod.snd y12 == 0) = true then (Go.Pl.preT (fun (x : View × Unit) => vOk (Prod.fst x)) [(.agg [(.int .i64 (View.o (Prod.fst y12))), (.sl 1 false (List.map enc (View.d (Prod.fst y12)))), (.sl 1 false (List.map enc (View.s (Prod.fst y12))))])]) = true ∧ (∃ y13 : List Int, AV.pv (valT (fun (x : View × Unit) => offsT (Prod.fst x)) [(.agg [(.int .i64 (View.o (Prod.fst y12))), (.sl 1 false (List.map enc (View.d (Prod.fst y12)))), (.sl 1 false (List.map enc (View.s (Prod.fst y12))))])]) = AV.pv (enc y13) ∧ ((Go.Pl.preT (fun (x : List Int × Int × Int × Unit) => rowsPre (Prod.fst x) (Prod.fst (Prod.snd x)) (Prod.fst (Prod.snd (Prod.snd x)))) [(.sl 1 false (List.map enc y13)), (.int .i64 (IntKind.wrap IntKind.i64 (Int.tmod (IntKind.wrap IntKind.i64 (↑(UInt8.toNat c) : Int)) 8 + 1))), (.int .i64 (IntKind.wrap IntKind.i64 (Int.tmod (IntKind.wrap IntKind.i64 (↑(UInt8.toNat c) : Int)) 8 + 1)))]) = true ∧ (∃ y14 : Bool, AV.pv (valT (fun (x : List Int × Int × Int × Unit) => rowsB (Prod.fst x) (Prod.fst (Prod.snd x)) (Prod.fst (Prod.snd (Prod.snd x)))) [(.sl 1 false (List.map enc y13)), (.int .i64 (IntKind.wrap IntKind.i64 (Int.tmod (IntKind.wrap IntKind.i64 (↑(UInt8.toNat c) : Int)) 8 + 1))), (.int .i64 (IntKind.wrap IntKind.i64 (Int.tmod (IntKind.wrap IntKind.i64 (↑(UInt8.toNat c) : Int)) 8 + 1)))]) = AV.pv (enc y14) ∧ (if (!y14) = true then G ((.bool false)) else (∃ y15 : View × Int, AV.pv (valT (fun (x : List Int × Unit) => ofT (Prod.fst x)) [(.sl 1 false [(.int .i64 (IntKind.wrap IntKind.i64 (Int.tmod (IntKind.wrap IntKind.i64 (↑(UInt8.toNat c) : Int)) 8 + 1))), (.int .i64 (IntKind.wrap IntKind.i64 (Int.tmod (IntKind.wrap IntKind.i64 (↑(UInt8.toNat c) : Int)) 8 + 1)))])]) = AV.pv (enc y15) ∧ ((Go.Pl.preT (fun (x : View × Unit) => vOk (Prod.fst x)) [(.agg [(.int .i64 (View.o (Prod.fst y15))), (.sl 1 false (List.map enc (View.d (Prod.fst y15)))), (.sl 1 false (List.map enc (View.s (Prod.fst y15))))])]) = true ∧ (∃ y16 : View × Int, AV.pv (valT (fun (x : View × Unit) => chgT diagC 2 (Prod.fst x) 0) [(.agg [(.int .i64 (View.o (Prod.fst y15))), (.sl 1 false (List.map enc (View.d (Prod.fst y15)))), (.sl 1 false (List.map enc (View.s (Prod.fst y15))))])]) = AV.pv (enc y16) ∧ ((Go.Pl.preT (fun (x : View × Unit) => vOk (Prod.fst x)) [(.agg [(.int .i64 (View.o (Prod.fst y16))), (.sl 1 false (List.map enc (View.d (Prod.fst y16)))), (.sl 1 false (List.map enc (View.s (Prod.fst y16))))])]) = true ∧ (∃ y17 : List Int, AV.pv (valT (fun (x : View × Unit) => offsT (Prod.fst x)) [(.agg [(.int .i64 (View.o (Prod.fst y16))), (.sl 1 false (List.map enc (View.d (Prod.fst y16)))), (.sl 1 false (List.map enc (View.s (Prod.fst y16))))])]) = AV.pv (enc y17) ∧ (At T_lparts 0 (endP' rs_lparts G) ic_lparts 0 175 [(8, (.pv (.int .i64 (IntKind.wrap IntKind.i64 (Int.tmod (IntKind.wrap IntKind.i64 (↑(UInt8.toNat c) : Int)) 8 + 1))))), (21, (.pv (.int .i64 (Prod.snd y15)))), (23, (.pv (.int .i64 (Prod.snd y16)))), (24, (.pv (.sl 1 false (List.map enc y17)))), (148, (.pv (.int .i64 (↑(List.length (List.map enc y17)) : Int)))), (149, (.pv (.int .i64 0)))] [])))))))))) else (∃ y18 : View × Int, AV.pv (valT (fun (x : List Int × Unit) => ofT (Prod.fst x)) [(.sl 1 false [(.int .i64 (IntKind.wrap IntKind.i64 (Int.tmod (IntKind.wrap IntKind.i64 (↑(UInt8.toNat c) : Int)) 8 + 1))), (.int .i64 (IntKind.wrap IntKind.i64 (Int.tmod (IntKind.wrap IntKind.i64 (↑(UInt8.toNat c) : Int)) 8 + 1)))])]) = AV.pv (enc y18) ∧ ((Go.Pl.preT (fun (x : View × Unit) => vOk (Prod.fst x)) [(.agg [(.int .i64 (View.o (Prod.fst y18))), (.sl 1 false (List.map enc (View.d (Prod.fst y18)))), (.sl 1 false (List.map enc (View.s (Prod.fst y18))))])]) = true ∧ (∃ y19 : View × Int, AV.pv (valT (fun (x : View × Unit) => chgT diagC 2 (Prod.fst x) 0) [(.agg [(.int .i64 (View.o (Prod.fst y18))), (.sl 1 false (List.map enc (View.d (Prod.fst y18)))), (.sl 1 false (List.map enc (View.s (Prod.fst y18))))])]) = AV.pv (enc y19) ∧ ((Go.Pl.preT (fun (x : View × Unit) => vOk (Prod.fst x)) [(.agg [(.int .i64 (View.o (Prod.fst y19))), (.sl 1 false (List.map enc (View.d (Prod.fst y19)))), (.sl 1 false (List.map enc (View.s (Prod.fst y19))))])]) = true ∧ (∃ y20 : List Int, AV.pv (valT (fun (x : View × Unit) => offsT (Prod.fst x)) [(.agg [(.int .i64 (View.o (Prod.fst y19))), (.sl 1 false (List.map enc (View.d (Prod.fst y19)))), (.sl 1 false (List.map enc (View.s (Prod.fst y19))))])]) = AV.pv (enc y20) ∧ (At T_lparts 0 (endP' rs_lparts G) ic_lparts 0 175 [(8, (.pv (.int .i64 (IntKind.wrap IntKind.i64 (Int.tmod (IntKind.wrap IntKind.i64 (↑(UInt8.toNat c) : Int)) 8 + 1))))), (21, (.pv (.int .i64 (Prod.snd y18)))), (23, (.pv (.int .i64 (Prod.snd y19)))), (24, (.pv (.sl 1 false (List.map enc y20)))), (148, (.pv (.int .i64 (↑(List.length (List.map enc y20)) : Int)))), (149, (.pv (.int .i64 0)))] []))))))))))))))))))))))))))))))))))))))))))))))) : Gets T_lparts 0 (endP' rs_lparts G) ic_lparts [] (st0 175 [enc n, enc k, enc c]) := Gets.tp (.lit (.abs (Bool) (fun YY => AV.pv (enc YY)) (.ask (.nil) (.lit (.lit (.lit (.lit (.req (.lit (.lit (.lit (.abs (View × Int) (fun YY => AV.pv (enc YY)) (.req (.abs (View × Int) (fun YY => AV.pv (enc YY)) (.req (.abs (View × Int) (fun YY => AV.pv (enc YY)) (.req (.abs (View × Int) (fun YY => AV.pv (enc YY)) (.lit (.ask (.lit (.lit (.lit (.lit (.lit (.lit (.lit (.lit (.lit (.lit (.lit (.lit (.lit (.lit (.lit (.lit (.lit (.lit (.lit (.lit (.lit (.nil)))))))))))))))))))))) (.lit (.lit (.lit (.ask (.lit (.lit (.lit (.lit (.lit (.lit (.lit (.lit (.lit (.lit (.lit (.lit (.lit (.lit (.lit (.lit (.lit (.lit (.nil))))))))))))))))))) (.lit (.lit (.lit (.ask (.lit (.lit (.lit (.lit (.lit (.lit (.lit (.lit (.lit (.lit (.lit (.lit (.lit (.lit (.lit (.nil)))))))))))))))) (.lit (.lit (.lit (.ask (.lit (.lit (.lit (.lit (.lit (.lit (.lit (.lit (.lit (.lit (.lit (.lit (.nil))))))))))))) (.lit (.lit (.lit (.req (.abs (List Int) (fun YY => AV.pv (enc YY)) (.lit (.req (.req (.lit (.lit (.req (.abs (List Int) (fun YY => AV.pv (enc YY)) (.lit (.req (.req (.lit (.lit (.req (.abs (List Int) (fun YY => AV.pv (enc YY)) (.lit (.req (.req (.abs (Bool) (fun YY => AV.pv (enc YY)) (.lit (.lit (.ask (.nil) (.lit (.lit (.lit (.lit (.req (.abs (Bool) (fun YY => AV.pv (enc YY)) (.ask (.lit (.lit (.lit (.lit (.lit (.lit (.nil))))))) (.lit (.req (.abs (List Int) (fun YY => AV.pv (enc YY)) (.lit (.lit (.req (.abs (Bool) (fun YY => AV.pv (enc YY)) (.lit (.lit (.ask (.nil) (.req (.abs (View × Int) (fun YY => AV.pv (enc YY)) (.lit (.req (.lit (.lit (.ask (.lit (.lit (.lit (.lit (.lit (.nil)))))) (.lit (.lit (.lit (.ask (.lit (.req (.abs (List Int) (fun YY => AV.pv (enc YY)) (.lit (.lit (.lit (.req (.abs (Bool) (fun YY => AV.pv (enc YY)) (.lit (.lit (.lit (.lit (.ask (.nil) (.lit (.lit (.lit (.abs (View × Int) (fun YY => AV.pv (enc YY)) (.req (.abs (View × Int) (fun YY => AV.pv (enc YY)) (.req (.abs (List Int) (fun YY => AV.pv (enc YY)) (.nil)))))))))))))))))))))) (.lit (.lit (.lit (.lit (.lit (.lit (.lit (.lit (.lit (.lit (.lit (.lit (.abs (View × Int) (fun YY => AV.pv (enc YY)) (.req (.abs (View × Int) (fun YY => AV.pv (enc YY)) (.req (.abs (List Int) (fun YY => AV.pv (enc YY)) (.nil)))))))))))))))))))))))))))))))))))))))))))))))))))))))))))))))))))))))))))))))))))))))))))))))))))))))) h (by kernel_rfl)
theorem lparts_h0 {G : PV → Prop} (n k c : UInt8) (m e1 e2 : Int) (l : List Int) (i : Int) (h : if (decide (i < (↑(List.length l) : Int))) = true then (decide (0 ≤ i) && decide (Int.toNat i < List.length (List.map enc l)) && Enc.sz Int == 1) = true ∧ (∃ y0 : Int, AV.pv (PV.rptr (PV.cells (List.getD (List.map enc l) (Int.toNat i) default))) = AV.pv (PV.rptr (PV.cells ((enc) y0))) ∧ (if (PV.asInt (List.getD (PV.cells (enc y0)) 0 default) != IntKind.wrap IntKind.i64 (IntKind.wrap IntKind.i64 (i * m) + i)) = true then G ((.bool false)) else (At T_lparts 0 (endP' rs_lparts G) ic_lparts 0 175 [(8, (.pv (.int .i64 m))), (21, (.pv (.int .i64 e1))), (23, (.pv (.int .i64 e2))), (24, (.pv (.sl 1 false (List.map enc l)))), (148, (.pv (.int .i64 (↑(List.length l) : Int)))), (149, (.pv (.int .i64 (IntKind.wrap IntKind.i64 (i + 1)))))] []))) else (if (e1 == 0) = true then if (e2 == 0) = true then G ((.bool ((↑(List.length (List.map enc l)) : Int) == m))) else (G ((.bool false))) else (G ((.bool false))))) : At T_lparts 0 (endP' rs_lparts G) ic_lparts 0 175 [(8, .pv (.int .i64 m)), (21, .pv (.int .i64 e1)), (23, .pv (.int .i64 e2)), (24, .pv (enc l)), (148, .pv (.int .i64 l.length)), (149, .pv (.int .i64 i))] [] := At.tp (.lit (.ask (.req (.abs (Int) (fun YY => AV.pv (PV.rptr (PV.cells ((enc) YY)))) (.lit (.lit (.lit (.lit (.ask (.nil) (.lit (.nil))))))))) (.lit (.ask (.lit (.lit (.lit (.ask (.lit (.lit (.lit (.lit (.lit (.nil)))))) (.lit (.lit (.lit (.lit (.nil))))))))) (.lit (.lit (.lit (.lit (.lit (.lit (.lit (.nil)))))))))))) h (by kernel_rfl)
end Go.Pl

namespace Go.Pl
open Go.RowKit
open Enc (enc dec is)
open EncL (encL decL isL)
theorem ediv_in {a b : Int} (h0 : 0 ≤ a) (hb : 1 ≤ b) : 0 ≤ a.tdiv b ∧ a.tdiv b ≤ a ∧ 0 ≤ a.tmod b ∧ a.tmod b < b := by
  rw [Int.tdiv_eq_ediv_of_nonneg h0, Int.tmod_eq_emod_of_nonneg h0]
  exact ⟨Int.ediv_nonneg h0 (by omega), Int.ediv_le_self b h0, Int.emod_nonneg a (by omega), Int.emod_lt_of_pos a (by omega)⟩
theorem rows_loop (l : List Int) (n s : Int) (hp : rowsPre l n s = true) : ∀ (m k : Nat), m + k = l.length → (∀ j, j < k → l.getD j 0 = (j : Int).tdiv n * s + (j : Int).tmod n) →
    At T_rows 0 (endP' rs_rows (Fits (rowsB l n s))) ic_rows 0 nt_rows [(0, .pv (enc l)), (1, .pv (enc n)), (2, .pv (enc s)), (9, .pv (.int .i64 l.length)), (10, .pv (.int .i64 k))] [] := by
  simp only [rowsPre, Bool.and_eq_true, Bool.or_eq_true, decide_eq_true_eq, List.isEmpty_iff] at hp
  obtain ⟨⟨⟨⟨hl, hn⟩, hn2⟩, hs0⟩, hs⟩ := hp
  intro m
  induction m with
  | zero =>
    intro k hk hall
    refine rows_h0 l n s k ?_
    rw [if_neg (by simp; omega)]
    refine ⟨rfl, ?_⟩
    show true = _
    symm
    rw [rowsB, List.all_eq_true]
    intro j hj
    rw [List.mem_range] at hj
    exact decide_eq_true (hall j (by omega))
  | succ m ih =>
    intro k hk hall
    have hlt : k < l.length := by omega
    have hn1 : 1 ≤ n := by
      rcases hn with rfl | h
      · simp at hlt
      · exact h
    refine rows_h0 l n s k ?_
    rw [if_pos (by simp; omega)]
    have hg : l.getD k 0 = l[k] := by simp [List.getD, hlt]
    obtain ⟨d1, d2, d3, d4⟩ := ediv_in (a := (k : Int)) (b := n) (by omega) hn1
    have m1 : 0 ≤ (k : Int).tdiv n * s ∧ (k : Int).tdiv n * s ≤ 1000000 * 1000000 := ⟨Int.mul_nonneg d1 hs0, Int.mul_le_mul (by omega) hs hs0 (by omega)⟩
    have hw : IntKind.wrap .i64 (IntKind.wrap .i64 (IntKind.wrap .i64 ((k : Int).tdiv n) * s) + (k : Int).tmod n) = (k : Int).tdiv n * s + (k : Int).tmod n := by
      rw [wrap64 (n := (k : Int).tdiv n) (by omega) (by omega), wrap64 (n := (k : Int).tdiv n * s) (by omega) (by omega), wrap64 (by omega) (by omega)]
    refine ⟨by simp [Enc.sz]; omega, l[k], by rw [getD_map _ hlt], by simp; omega, by simp; omega, ?_⟩
    rw [hw, next (by omega)]
    show if (l[k] != _) = true then _ else _
    by_cases he : l[k] = (k : Int).tdiv n * s + (k : Int).tmod n
    · rw [if_neg (by simp [he])]
      refine ih (k + 1) (by omega) fun j hj => ?_
      by_cases hjk : j = k
      · subst hjk; rw [hg]; exact he
      · exact hall j (by omega)
    · rw [if_pos (by simpa using he)]
      refine ⟨rfl, ?_⟩
      show false = _
      symm
      rw [rowsB, List.all_eq_false]
      exact ⟨k, by simpa using hlt, by simp only [decide_eq_true_eq, hg]; exact he⟩
theorem rows_run : ∀ a : List Int × Int × Int × Unit, rowsPre a.1 a.2.1 a.2.2.1 = true → Gets T_rows 0 (endP' rs_rows (Fits (rowsB a.1 a.2.1 a.2.2.1))) ic_rows [] (st0 nt_rows (encL a)) := by
  rintro ⟨l, n, s, ⟨⟩⟩ hp
  refine rows_s l n s ?_
  rw [List.length_map]
  exact rows_loop l n s hp l.length 0 (by omega) fun j hj => by omega
end Go.Pl

namespace Go.Pl
open Go.RowKit
open Enc (enc dec is)
open EncL (encL decL isL)
theorem size1 {d : Nat} (h : d ≤ 4096) : sizeB [(d : Int)] = ((d : Int), 0) := by
  by_cases h0 : d = 0
  · subst h0; rfl
  · have h1 : ((d : Int) == 0) = false := by simpa using h0
    have h2 : decide (4096 < 1 * (d : Int)) = false := by simp; omega
    have h3 : dimB (d : Int) = true := by simp [dimB]; omega
    simp only [sizeB, List.length_cons, List.length_nil, List.all_cons, List.all_nil, List.any_cons, List.any_nil, h1, h3, prodB, h2, cond_false, cond_true, Bool.or_false, Bool.and_true]
    simp
theorem size2 {a b : Nat} (ha : a ≤ 4096) (hb : b ≤ 4096) (h : a * b ≤ 4096) : sizeB [(a : Int), (b : Int)] = (((a * b : Nat) : Int), 0) := by
  have h3 : dimB (a : Int) = true := by simp [dimB]; omega
  have h4 : dimB (b : Int) = true := by simp [dimB]; omega
  by_cases h0 : a = 0 ∨ b = 0
  · have e : a * b = 0 := by rcases h0 with rfl | rfl <;> simp
    have h5 : ((a : Int) == 0 || ((b : Int) == 0 || false)) = true := by simpa using h0
    simp only [sizeB, List.length_cons, List.length_nil, List.all_cons, List.all_nil, List.any_cons, List.any_nil, h3, h4, h5, cond_true, Bool.and_true, e]
    rfl
  · have h5 : ((a : Int) == 0 || ((b : Int) == 0 || false)) = false := by simpa using h0
    have h2 : decide (4096 < 1 * (a : Int)) = false := by simp; omega
    have h6 : decide (4096 < 1 * (a : Int) * (b : Int)) = false := by
      have : (1 : Int) * a * b = ((a * b : Nat) : Int) := by simp
      rw [this]; simp only [decide_eq_false_iff_not]; omega
    simp only [sizeB, List.length_cons, List.length_nil, List.all_cons, List.all_nil, List.any_cons, List.any_nil, h3, h4, h5, prodB, h2, h6, cond_false, cond_true, Bool.and_true]
    simp
theorem form1 {d : Nat} (h : d ≤ 4096) (s : Int) : formB [(d : Int)] [s] = true := by simp [formB, size1 h]
theorem form2 {a b : Nat} (ha : a ≤ 4096) (hb : b ≤ 4096) (h : a * b ≤ 4096) (s t : Int) : formB [(a : Int), (b : Int)] [s, t] = true := by simp [formB, size2 ha hb h]
theorem of1 {d : Nat} (h : d ≤ 4096) : ofT [(d : Int)] = (⟨0, [(d : Int)], [1]⟩, 0) := by
  simp [ofT, ofB, size1 h, vrT, strd, sufP]
theorem of2 {a : Nat} (h : a ≤ 64) : ofT [(a : Int), (a : Int)] = (⟨0, [(a : Int), (a : Int)], [(a : Int), 1]⟩, 0) := by
  have : a * a ≤ 64 * 64 := Nat.mul_le_mul h h
  simp only [ofT, ofB, size2 (a := a) (b := a) (by omega) (by omega) (by omega), vrT, strd, sufP]
  simp [w64, wrap64 (n := (a : Int)) (by omega) (by omega)]
theorem offs1 {d : Nat} (h : d ≤ 4096) (o s : Int) : offsT ⟨o, [(d : Int)], [s]⟩ = (List.range d).map fun (k : Nat) => w64 (o + w64 ((k : Int) * s)) := by
  simp only [offsT, offsB, form1 h, cond_true, size1 h, oset, Int.toNat_natCast]
  refine List.map_congr_left fun k hk => ?_
  rw [List.mem_range] at hk
  have e : (idxR [(d : Int)] (k : Int)).2 = [(k : Int)] := by
    simp only [idxR, List.cons.injEq, and_true]
    rw [Int.tmod_eq_emod_of_nonneg (by omega), Int.emod_eq_of_lt (by omega) (by omega)]
  rw [e]
  have h1 : decide ((k : Int) < 0) = false := by simp
  have h2 : decide ((k : Int) ≥ (d : Int)) = false := by simp; omega
  simp only [atB, form1 h, offB, size1 h, offL, h1, h2, atL, List.length_cons, List.length_nil, Bool.or_false, cond_true, cond_false, bne_self_eq_false]
theorem offs2 {a b : Nat} (ha : a ≤ 4096) (hb : b ≤ 4096) (h : a * b ≤ 4096) (o s t : Int) : offsT ⟨o, [(a : Int), (b : Int)], [s, t]⟩ = (List.range (a * b)).map fun (k : Nat) => w64 (w64 (o + w64 (((k / b : Nat) : Int) * s)) + w64 (((k % b : Nat) : Int) * t)) := by
  simp only [offsT, offsB, form2 ha hb h, cond_true, size2 ha hb h, oset, Int.toNat_natCast]
  refine List.map_congr_left fun k hk => ?_
  rw [List.mem_range] at hk
  have hb0 : 0 < b := Nat.pos_of_ne_zero fun e => by subst e; simp at hk
  have hq : k / b < a := Nat.div_lt_of_lt_mul (by rwa [Nat.mul_comm] at hk)
  have hm : k % b < b := Nat.mod_lt _ hb0
  have e : (idxR [(a : Int), (b : Int)] (k : Int)).2 = [((k / b : Nat) : Int), ((k % b : Nat) : Int)] := by
    have e1 : (k : Int).tdiv b = ((k / b : Nat) : Int) := by rw [Int.tdiv_eq_ediv_of_nonneg (by omega)]; simp
    have e2 : (k : Int).tmod b = ((k % b : Nat) : Int) := by rw [Int.tmod_eq_emod_of_nonneg (by omega)]; simp
    simp only [idxR, e1, e2, List.cons.injEq, and_true]
    clear e1 e2
    generalize k / b = q at hq ⊢
    rw [w64, wrap64 (by omega) (by omega), Int.tmod_eq_emod_of_nonneg (by omega), Int.emod_eq_of_lt (by omega) (by omega)]
  rw [e]
  clear e
  generalize k / b = q at hq ⊢
  generalize k % b = r at hm ⊢
  have h1 : decide ((q : Int) < 0) = false := by simp only [decide_eq_false_iff_not]; omega
  have h2 : decide ((q : Int) ≥ (a : Int)) = false := by simp only [decide_eq_false_iff_not]; omega
  have h3 : decide ((r : Int) < 0) = false := by simp only [decide_eq_false_iff_not]; omega
  have h4 : decide ((r : Int) ≥ (b : Int)) = false := by simp only [decide_eq_false_iff_not]; omega
  simp only [atB, form2 ha hb h, offB, size2 ha hb h, offL, h1, h2, h3, h4, atL, List.length_cons, List.length_nil, Bool.or_false, cond_true, cond_false, bne_self_eq_false]
theorem w64s {n : Int} (h1 : -1000000000 ≤ n) (h2 : n ≤ 1000000000) : w64 n = n := wrap64 (by omega) (by omega)
theorem take1 {d p : Nat} (h : d ≤ 4096) (hp : p ≤ d) : chgT takeC 1 ⟨0, [(d : Int)], [1]⟩ p = (⟨0, [(p : Int)], [1]⟩, 0) := by
  have h1 : ¬ ((p : Int) < 0 ∨ (p : Int) > (d : Int)) := by omega
  have hs := size1 (d := p) (by omega)
  simp only [chgT, stepB, form1 h, caT, takeC, errC, offC, dimC, strC, n0, m0, List.length_cons, List.length_nil, Nat.zero_add, Nat.sub_self, List.take_zero, List.drop_zero, List.nil_append, List.getD_cons_zero, h1, if_false, hs, vrT]
  rfl
theorem drop1 {d p : Nat} (h : d ≤ 4096) (hp : p ≤ d) : chgT dropC 1 ⟨0, [(d : Int)], [1]⟩ p = (⟨if p < d then (p : Int) else 0, [((d - p : Nat) : Int)], [1]⟩, 0) := by
  have h1 : ¬ ((p : Int) < 0 ∨ (p : Int) > (d : Int)) := by omega
  have e : w64 ((d : Int) - p) = ((d - p : Nat) : Int) := by rw [w64s (by omega) (by omega)]; omega
  have e2 : w64 (w64 (p : Int)) = (p : Int) := by rw [w64s (n := (p : Int)) (by omega) (by omega), w64s (by omega) (by omega)]
  have hs := size1 (d := d - p) (by omega)
  by_cases hlt : p < d
  · have h2 : (d : Int) > (p : Int) := by omega
    have e3 : w64 (0 + w64 ((p : Int) * 1)) = (p : Int) := by rw [w64s (n := (p : Int) * 1) (by omega) (by omega), w64s (by omega) (by omega)]; omega
    simp only [chgT, stepB, form1 h, caT, dropC, errC, offC, dimC, strC, n0, m0, List.length_cons, List.length_nil, Nat.zero_add, Nat.sub_self, List.take_zero, List.drop_zero, List.nil_append, List.getD_cons_zero, h1, h2, if_false, if_true, e, e3, hs, vrT, hlt]
    rfl
  · have h2 : ¬ ((d : Int) > (p : Int)) := by omega
    simp only [chgT, stepB, form1 h, caT, dropC, errC, offC, dimC, strC, n0, m0, List.length_cons, List.length_nil, Nat.zero_add, Nat.sub_self, List.take_zero, List.drop_zero, List.nil_append, List.getD_cons_zero, h1, h2, if_false, e, hs, vrT, hlt]
    rfl
theorem wind1 {d p : Nat} (h : d ≤ 60) (hp : p ≤ d) : chgT windC 1 ⟨0, [(d : Int)], [1]⟩ p = (⟨0, [((d - p + 1 : Nat) : Int), (p : Int)], [1, 1]⟩, 0) := by
  have h1 : ¬ ((p : Int) < 0 ∨ (p : Int) > (d : Int)) := by omega
  have e : w64 (w64 ((d : Int) - p) + 1) = ((d - p + 1 : Nat) : Int) := by rw [w64s (n := (d : Int) - p) (by omega) (by omega), w64s (by omega) (by omega)]; omega
  have hm : (d - p + 1) * p ≤ 61 * 60 := Nat.mul_le_mul (by omega) (by omega)
  have hs := size2 (a := d - p + 1) (b := p) (by omega) (by omega) (by omega)
  simp only [chgT, stepB, form1 (d := d) (by omega), caT, windC, errC, offC, dimC, strC, n0, m0, List.length_cons, List.length_nil, Nat.zero_add, Nat.sub_self, List.take_zero, List.drop_zero, List.nil_append, List.getD_cons_zero, h1, if_false, e, hs, vrT]
  rfl
theorem chunk1 {d m : Nat} (h : d ≤ 60) (hm : 1 ≤ m) (hm2 : m ≤ 8) : chgT chunkC 1 ⟨0, [(d : Int)], [1]⟩ m = if d % m = 0 then (⟨0, [((d / m : Nat) : Int), (m : Int)], [(m : Int), 1]⟩, 0) else (⟨0, [], []⟩, 14) := by
  have h1 : ¬ ((m : Int) < 1 ∨ (m : Int) > 64) := by omega
  have e1 : (d : Int).tdiv m = ((d / m : Nat) : Int) := by rw [Int.tdiv_eq_ediv_of_nonneg (by omega)]; simp
  have e2 : (d : Int).tmod m = ((d % m : Nat) : Int) := by rw [Int.tmod_eq_emod_of_nonneg (by omega)]; simp
  have hq : d / m ≤ d := Nat.div_le_self d m
  have hx : d / m * m ≤ d := Nat.div_mul_le_self d m
  have hq0 : (0 : Int) ≤ ((d / m : Nat) : Int) := Int.natCast_nonneg _
  have e3 : w64 ((d / m : Nat) : Int) = ((d / m : Nat) : Int) := w64s (by omega) (by omega)
  have e4 : w64 ((m : Int) * 1) = (m : Int) := by rw [w64s (by omega) (by omega)]; omega
  have hs := size2 (a := d / m) (b := m) (by omega) (by omega) (by omega)
  by_cases h0 : d % m = 0
  · have h2 : ¬ (((d % m : Nat) : Int) ≠ 0) := by simp [h0]
    rw [if_pos h0]
    simp only [chgT, stepB, form1 (d := d) (by omega), caT, chunkC, errC, offC, dimC, strC, n0, m0, List.length_cons, List.length_nil, Nat.zero_add, Nat.sub_self, List.take_zero, List.drop_zero, List.nil_append, List.getD_cons_zero, h1, e1, e2, e3, e4, h2, if_false, hs, vrT]
    rfl
  · have h2 : ((d % m : Nat) : Int) ≠ 0 := by omega
    rw [if_neg h0]
    simp only [chgT, stepB, form1 (d := d) (by omega), caT, chunkC, errC, offC, dimC, strC, n0, m0, List.length_cons, List.length_nil, Nat.zero_add, Nat.sub_self, List.take_zero, List.drop_zero, List.nil_append, List.getD_cons_zero, h1, e1, e2, h2, if_false, if_true, vrT, ne_eq, not_false_eq_true]
    rfl
theorem diag1 {m : Nat} (hm2 : m ≤ 8) : chgT diagC 2 ⟨0, [(m : Int), (m : Int)], [(m : Int), 1]⟩ 0 = (⟨0, [(m : Int)], [(m : Int) + 1]⟩, 0) := by
  have hmm : m * m ≤ 8 * 8 := Nat.mul_le_mul hm2 hm2
  have e : w64 ((m : Int) + 1) = (m : Int) + 1 := w64s (by omega) (by omega)
  have hs := size1 (d := m) (by omega)
  simp only [chgT, stepB, form2 (a := m) (b := m) (by omega) (by omega) (by omega), caT, diagC, errC, offC, dimC, strC, n0, n1, m0, m1, List.length_cons, List.length_nil, Nat.zero_add, Nat.reduceAdd, Nat.sub_self, List.take_zero, List.drop_zero, List.nil_append, List.getD_cons_zero, List.getD_cons_succ, ne_eq, not_true, if_false, e, hs, vrT]
  rfl
end Go.Pl

namespace Go.Pl
open Go.RowKit
open Enc (enc dec is)
open EncL (encL decL isL)
theorem lparts_loop (n k c : UInt8) (m : Nat) (hm : 1 ≤ m ∧ m ≤ 8) (l : List Int) (hl : l = (List.range m).map fun (q : Nat) => (q : Int) * m + q) : ∀ (r q : Nat), r + q = l.length →
    At T_lparts 0 (endP' rs_lparts (Fits true)) ic_lparts 0 nt_lparts [(8, .pv (.int .i64 m)), (21, .pv (.int .i64 0)), (23, .pv (.int .i64 0)), (24, .pv (enc l)), (148, .pv (.int .i64 l.length)), (149, .pv (.int .i64 q))] [] := by
  have hlen : l.length = m := by simp [hl]
  intro r
  induction r with
  | zero =>
    intro q hq
    refine lparts_h0 n k c m 0 0 l q ?_
    rw [if_neg (by simp; omega), if_pos (by decide), if_pos (by decide), List.length_map, hlen]
    exact ⟨rfl, by simp⟩
  | succ r ih =>
    intro q hq
    have hlt : q < l.length := by omega
    refine lparts_h0 n k c m 0 0 l q ?_
    rw [if_pos (by simp; omega)]
    have hv : l[q] = (q : Int) * m + q := by simp [hl]
    have h1 : 0 ≤ (q : Int) * m ∧ (q : Int) * m ≤ 8 * 8 := ⟨Int.mul_nonneg (by omega) (by omega), Int.mul_le_mul (by omega) (by omega) (by omega) (by omega)⟩
    have hw : IntKind.wrap .i64 (IntKind.wrap .i64 ((q : Int) * m) + q) = (q : Int) * m + q := by rw [wrap64 (n := (q : Int) * m) (by omega) (by omega), wrap64 (by omega) (by omega)]
    refine ⟨by simp [Enc.sz]; omega, l[q], by rw [getD_map _ hlt], ?_⟩
    rw [hw, next (by omega)]
    show if (l[q] != _) = true then _ else _
    rw [if_neg (by simp [hv])]
    exact ih (q + 1) (by omega)
theorem u8_in (n : UInt8) : (n.toNat : Int) < 256 := by have := n.toNat_lt; omega
theorem offs_ok (v : View) : (offsT v).length ≤ 4096 := by
  unfold offsT offsB
  cases formB v.d v.s with
  | false => simp
  | true => simp only [cond_true, oset_length]; have := size_le (d := v.d); omega
theorem lparts_run : ∀ a : UInt8 × UInt8 × UInt8 × Unit, true = true → Gets T_lparts 0 (endP' rs_lparts (Fits true)) ic_lparts [] (st0 nt_lparts (encL a)) := by
  rintro ⟨n, k, c, ⟨⟩⟩ _
  refine lparts_s n k c ?_
  refine ex_enc () rfl ?_
  rw [if_neg (by simp)]
  obtain ⟨d, hd, hd60⟩ : ∃ d : Nat, Int.tmod (IntKind.wrap .i64 (n.toNat : Int)) 61 = (d : Int) ∧ d ≤ 60 := by
    have := u8_in n
    refine ⟨n.toNat % 61, ?_, by omega⟩
    rw [wrap64 (by omega) (by omega), Int.tmod_eq_emod_of_nonneg (by omega)]; omega
  have hd1 : IntKind.wrap .i64 ((d : Int) + 1) = (d : Int) + 1 := wrap64 (by omega) (by omega)
  obtain ⟨p, hp, hpd⟩ : ∃ p : Nat, Int.tmod (IntKind.wrap .i64 (k.toNat : Int)) ((d : Int) + 1) = (p : Int) ∧ p ≤ d := by
    have := u8_in k
    refine ⟨k.toNat % (d + 1), ?_, by have := Nat.mod_lt k.toNat (y := d + 1) (by omega); omega⟩
    rw [wrap64 (by omega) (by omega), Int.tmod_eq_emod_of_nonneg (by omega)]; simp
  obtain ⟨m, hm, hm1, hm8⟩ : ∃ m : Nat, IntKind.wrap .i64 (Int.tmod (IntKind.wrap .i64 (c.toNat : Int)) 8 + 1) = (m : Int) ∧ 1 ≤ m ∧ m ≤ 8 := by
    have := u8_in c
    refine ⟨c.toNat % 8 + 1, ?_, by omega, by omega⟩
    rw [wrap64 (n := (c.toNat : Int)) (by omega) (by omega), Int.tmod_eq_emod_of_nonneg (by omega), wrap64 (by omega) (by omega)]; omega
  have hdp : IntKind.wrap .i64 (IntKind.wrap .i64 ((d : Int) - p) + 1) = ((d - p + 1 : Nat) : Int) := by rw [wrap64 (n := (d : Int) - p) (by omega) (by omega), wrap64 (by omega) (by omega)]; omega
  simp only [hd, hd1, hp, hm, hdp]
  refine ⟨by simp; omega, ?_⟩
  refine ex_enc ([(d : Int)], ()) rfl ?_
  simp only [of1 (d := d) (by omega)]
  refine ⟨pre_enc (⟨0, [(d : Int)], [1]⟩, (p : Int), ()) rfl rfl, ?_⟩
  refine ex_enc (⟨0, [(d : Int)], [1]⟩, (p : Int), ()) rfl ?_
  simp only [take1 (d := d) (by omega) hpd]
  refine ⟨pre_enc (⟨0, [(d : Int)], [1]⟩, (p : Int), ()) rfl rfl, ?_⟩
  refine ex_enc (⟨0, [(d : Int)], [1]⟩, (p : Int), ()) rfl ?_
  simp only [drop1 (d := d) (by omega) hpd]
  refine ⟨pre_enc (⟨0, [(d : Int)], [1]⟩, (p : Int), ()) rfl rfl, ?_⟩
  refine ex_enc (⟨0, [(d : Int)], [1]⟩, (p : Int), ()) rfl ?_
  simp only [wind1 (d := d) (by omega) hpd]
  rw [if_neg (by simp), if_neg (by simp), if_neg (by simp), if_neg (by simp)]
  refine ⟨pre_enc (⟨0, [(p : Int)], [1]⟩, ()) rfl rfl, ?_⟩
  refine ex_enc (⟨0, [(p : Int)], [1]⟩, ()) rfl ?_
  have e5 : offsT ⟨0, [(p : Int)], [1]⟩ = (List.range p).map fun (q : Nat) => (q : Int) := by
    rw [offs1 (by omega)]
    refine List.map_congr_left fun q hq => ?_
    rw [List.mem_range] at hq
    rw [w64s (n := (q : Int) * 1) (by omega) (by omega), w64s (by omega) (by omega)]; omega
  have e6 : offsT ⟨if p < d then (p : Int) else 0, [((d - p : Nat) : Int)], [1]⟩ = (List.range (d - p)).map fun (q : Nat) => ((p + q : Nat) : Int) := by
    rw [offs1 (by omega)]
    refine List.map_congr_left fun q hq => ?_
    rw [List.mem_range] at hq
    rw [if_pos (by omega), w64s (n := (q : Int) * 1) (by omega) (by omega), w64s (by omega) (by omega)]; omega
  have e7 : offsT ⟨0, [(d : Int)], [1]⟩ = (List.range d).map fun (q : Nat) => (q : Int) := by
    rw [offs1 (by omega)]
    refine List.map_congr_left fun q hq => ?_
    rw [List.mem_range] at hq
    rw [w64s (n := (q : Int) * 1) (by omega) (by omega), w64s (by omega) (by omega)]; omega
  have l5 : (offsT ⟨0, [(p : Int)], [1]⟩).length = p := by rw [e5]; simp
  have l6 : (offsT ⟨if p < d then (p : Int) else 0, [((d - p : Nat) : Int)], [1]⟩).length = d - p := by rw [e6]; simp
  have happ : offsT ⟨0, [(p : Int)], [1]⟩ ++ offsT ⟨if p < d then (p : Int) else 0, [((d - p : Nat) : Int)], [1]⟩ = offsT ⟨0, [(d : Int)], [1]⟩ := by
    rw [e5, e6, e7]
    conv => rhs; rw [show d = p + (d - p) by omega, List.range_add, List.map_append, List.map_map]
    rfl
  simp only []
  generalize offsT ⟨0, [(p : Int)], [1]⟩ = y5 at happ l5 ⊢
  refine ⟨by simp [Enc.sz], by simp; omega, ?_⟩
  refine ⟨pre_enc (⟨if p < d then (p : Int) else 0, [((d - p : Nat) : Int)], [1]⟩, ()) rfl rfl, ?_⟩
  refine ex_enc (⟨if p < d then (p : Int) else 0, [((d - p : Nat) : Int)], [1]⟩, ()) rfl ?_
  simp only []
  generalize offsT ⟨if p < d then (p : Int) else 0, [((d - p : Nat) : Int)], [1]⟩ = y6 at happ l6 ⊢
  refine ⟨by simp [Enc.sz], by simp; omega, ?_⟩
  refine ⟨pre_enc (⟨0, [(d : Int)], [1]⟩, ()) rfl rfl, ?_⟩
  refine ex_enc (⟨0, [(d : Int)], [1]⟩, ()) rfl ?_
  refine ⟨by simp, ?_⟩
  have hsl : List.drop 0 (List.take (0 + List.length (List.map enc y5) + List.length (List.map enc y6)) (([] : List PV) ++ List.map enc y5 ++ List.map enc y6)) = List.map enc (offsT ⟨0, [(d : Int)], [1]⟩) := by
    rw [← happ]
    simp [List.take_of_length_le]
  simp only [hsl]
  have l7 : (offsT ⟨0, [(d : Int)], [1]⟩).length ≤ 4096 := offs_ok _
  generalize offsT ⟨0, [(d : Int)], [1]⟩ = y7 at l7 ⊢
  refine ⟨pre_enc (y7, y7, ()) rfl (by simp; omega), ?_⟩
  refine ex_enc (y7, y7, ()) rfl ?_
  simp only [decide_true]
  rw [if_neg (by simp)]
  refine ⟨pre_enc ([((d - p + 1 : Nat) : Int), (p : Int)], [((d - p + 1 : Nat) : Int), (p : Int)], ()) rfl rfl, ?_⟩
  refine ex_enc ([((d - p + 1 : Nat) : Int), (p : Int)], [((d - p + 1 : Nat) : Int), (p : Int)], ()) rfl ?_
  simp only [decide_true]
  rw [if_neg (by simp)]
  refine ⟨pre_enc (⟨0, [((d - p + 1 : Nat) : Int), (p : Int)], [1, 1]⟩, ()) rfl rfl, ?_⟩
  refine ex_enc (⟨0, [((d - p + 1 : Nat) : Int), (p : Int)], [1, 1]⟩, ()) rfl ?_
  have hmp : (d - p + 1) * p ≤ 61 * 60 := Nat.mul_le_mul (by omega) (by omega)
  have e10 := offs2 (a := d - p + 1) (b := p) (by omega) (by omega) (by omega) 0 1 1
  have r10 : rowsB (offsT ⟨0, [((d - p + 1 : Nat) : Int), (p : Int)], [1, 1]⟩) p 1 = true := by
    rw [rowsB, List.all_eq_true]
    intro j hj
    rw [e10] at hj ⊢
    simp only [List.length_map, List.length_range, List.mem_range] at hj
    have hp0 : 0 < p := Nat.pos_of_ne_zero fun e => by subst e; simp at hj
    have hq : j / p ≤ j := Nat.div_le_self j p
    have hr : j % p < p := Nat.mod_lt _ hp0
    have t1 : (j : Int).tdiv p = ((j / p : Nat) : Int) := by rw [Int.tdiv_eq_ediv_of_nonneg (by omega)]; simp
    have t2 : (j : Int).tmod p = ((j % p : Nat) : Int) := by rw [Int.tmod_eq_emod_of_nonneg (by omega)]; simp
    simp only [List.getD_eq_getElem?_getD, List.getElem?_map, List.getElem?_range hj, Option.map_some, Option.getD_some, t1, t2, decide_eq_true_eq]
    clear t1 t2
    generalize j / p = q at hq ⊢
    generalize j % p = r at hr ⊢
    rw [w64s (n := (q : Int) * 1) (by omega) (by omega), w64s (n := (r : Int) * 1) (by omega) (by omega), w64s (n := 0 + (q : Int) * 1) (by omega) (by omega), w64s (by omega) (by omega)]; omega
  have l10 := offs_ok ⟨0, [((d - p + 1 : Nat) : Int), (p : Int)], [1, 1]⟩
  have z10 : p = 0 → offsT ⟨0, [((d - p + 1 : Nat) : Int), (p : Int)], [1, 1]⟩ = [] := by rintro rfl; rw [e10]; simp
  clear e10
  simp only []
  generalize offsT ⟨0, [((d - p + 1 : Nat) : Int), (p : Int)], [1, 1]⟩ = y10 at l10 r10 z10 ⊢
  have p10 : rowsPre y10 p 1 = true := by
    simp only [rowsPre, Bool.and_eq_true, Bool.or_eq_true, decide_eq_true_eq, List.isEmpty_iff]
    refine ⟨⟨⟨⟨by omega, ?_⟩, by omega⟩, by omega⟩, by omega⟩
    by_cases h0 : p = 0
    · exact .inl (z10 h0)
    · exact .inr (by omega)
  refine ⟨pre_enc (y10, (p : Int), 1, ()) rfl p10, ?_⟩
  refine ex_enc (y10, (p : Int), 1, ()) rfl ?_
  simp only [r10]
  rw [if_neg (by simp)]
  refine ⟨pre_enc (⟨0, [(d : Int)], [1]⟩, (m : Int), ()) rfl rfl, ?_⟩
  refine ex_enc (⟨0, [(d : Int)], [1]⟩, (m : Int), ()) rfl ?_
  refine ⟨by simp; omega, ?_⟩
  have e2 : (d : Int).tmod m = ((d % m : Nat) : Int) := by rw [Int.tmod_eq_emod_of_nonneg (by omega)]; simp
  simp only [chunk1 (d := d) (m := m) (by omega) hm1 hm8, e2]
  -- the diagonal
  have hmm : m * m ≤ 8 * 8 := Nat.mul_le_mul hm8 hm8
  have ed : offsT ⟨0, [(m : Int)], [(m : Int) + 1]⟩ = (List.range m).map fun (q : Nat) => (q : Int) * m + q := by
    rw [offs1 (by omega)]
    refine List.map_congr_left fun q hq => ?_
    rw [List.mem_range] at hq
    have h1 : 0 ≤ (q : Int) * m ∧ (q : Int) * m ≤ 8 * 8 := ⟨Int.mul_nonneg (by omega) (by omega), Int.mul_le_mul (by omega) (by omega) (by omega) (by omega)⟩
    have h2 : (q : Int) * ((m : Int) + 1) = q * m + q := by rw [Int.mul_add, Int.mul_one]
    rw [h2, w64s (n := (q : Int) * m + q) (by omega) (by omega), w64s (by omega) (by omega)]; omega
  have last : ∃ y15 : View × Int, AV.pv (valT (fun (x : List Int × Unit) => ofT (Prod.fst x)) [(.sl 1 false [(.int .i64 m), (.int .i64 m)])]) = AV.pv (enc y15) ∧
      ((preT (fun (x : View × Unit) => vOk (Prod.fst x)) [(.agg [(.int .i64 (View.o (Prod.fst y15))), (.sl 1 false (List.map enc (View.d (Prod.fst y15)))), (.sl 1 false (List.map enc (View.s (Prod.fst y15))))])]) = true ∧
      (∃ y16 : View × Int, AV.pv (valT (fun (x : View × Unit) => chgT diagC 2 (Prod.fst x) 0) [(.agg [(.int .i64 (View.o (Prod.fst y15))), (.sl 1 false (List.map enc (View.d (Prod.fst y15)))), (.sl 1 false (List.map enc (View.s (Prod.fst y15))))])]) = AV.pv (enc y16) ∧
      ((preT (fun (x : View × Unit) => vOk (Prod.fst x)) [(.agg [(.int .i64 (View.o (Prod.fst y16))), (.sl 1 false (List.map enc (View.d (Prod.fst y16)))), (.sl 1 false (List.map enc (View.s (Prod.fst y16))))])]) = true ∧
      (∃ y17 : List Int, AV.pv (valT (fun (x : View × Unit) => offsT (Prod.fst x)) [(.agg [(.int .i64 (View.o (Prod.fst y16))), (.sl 1 false (List.map enc (View.d (Prod.fst y16)))), (.sl 1 false (List.map enc (View.s (Prod.fst y16))))])]) = AV.pv (enc y17) ∧
      At T_lparts 0 (endP' rs_lparts (Fits true)) ic_lparts 0 175 [(8, (.pv (.int .i64 m))), (21, (.pv (.int .i64 (Prod.snd y15)))), (23, (.pv (.int .i64 (Prod.snd y16)))), (24, (.pv (.sl 1 false (List.map enc y17)))), (148, (.pv (.int .i64 (↑(List.length (List.map enc y17)) : Int)))), (149, (.pv (.int .i64 0)))] [])))) := by
    refine ex_enc ([(m : Int), (m : Int)], ()) rfl ?_
    simp only [of2 (a := m) (by omega)]
    refine ⟨pre_enc (⟨0, [(m : Int), (m : Int)], [(m : Int), 1]⟩, ()) rfl rfl, ?_⟩
    refine ex_enc (⟨0, [(m : Int), (m : Int)], [(m : Int), 1]⟩, ()) rfl ?_
    simp only [diag1 (m := m) hm8]
    refine ⟨pre_enc (⟨0, [(m : Int)], [(m : Int) + 1]⟩, ()) rfl rfl, ?_⟩
    refine ex_enc (⟨0, [(m : Int)], [(m : Int) + 1]⟩, ()) rfl ?_
    simp only [List.length_map]
    exact lparts_loop n k c m ⟨hm1, hm8⟩ _ ed (offsT ⟨0, [(m : Int)], [(m : Int) + 1]⟩).length 0 (by omega)
  by_cases h0 : d % m = 0
  · rw [if_pos h0]
    rw [if_neg (by simp [h0]), if_pos (by simp)]
    have hx : d / m * m ≤ d := Nat.div_mul_le_self d m
    have hq0 : d / m ≤ d := Nat.div_le_self d m
    refine ⟨pre_enc (⟨0, [((d / m : Nat) : Int), (m : Int)], [(m : Int), 1]⟩, ()) rfl rfl, ?_⟩
    refine ex_enc (⟨0, [((d / m : Nat) : Int), (m : Int)], [(m : Int), 1]⟩, ()) rfl ?_
    have e13 := offs2 (a := d / m) (b := m) (by omega) (by omega) (by omega) 0 m 1
    have r13 : rowsB (offsT ⟨0, [((d / m : Nat) : Int), (m : Int)], [(m : Int), 1]⟩) m m = true := by
      rw [rowsB, List.all_eq_true]
      intro j hj
      rw [e13] at hj ⊢
      simp only [List.length_map, List.length_range, List.mem_range] at hj
      have hq : j / m ≤ j := Nat.div_le_self j m
      have hr : j % m < m := Nat.mod_lt _ (by omega)
      have hjd : j < 60 := by omega
      have t1 : (j : Int).tdiv m = ((j / m : Nat) : Int) := by rw [Int.tdiv_eq_ediv_of_nonneg (by omega)]; simp
      have t2 : (j : Int).tmod m = ((j % m : Nat) : Int) := by rw [Int.tmod_eq_emod_of_nonneg (by omega)]; simp
      simp only [List.getD_eq_getElem?_getD, List.getElem?_map, List.getElem?_range hj, Option.map_some, Option.getD_some, t1, t2, decide_eq_true_eq]
      clear t1 t2
      generalize j / m = q at hq ⊢
      generalize j % m = r at hr ⊢
      have h1 : 0 ≤ (q : Int) * m ∧ (q : Int) * m ≤ 60 * 8 := ⟨Int.mul_nonneg (by omega) (by omega), Int.mul_le_mul (by omega) (by omega) (by omega) (by omega)⟩
      rw [w64s (n := (q : Int) * m) (by omega) (by omega), w64s (n := (r : Int) * 1) (by omega) (by omega), w64s (n := 0 + (q : Int) * m) (by omega) (by omega), w64s (by omega) (by omega)]; omega
    have l13 := offs_ok ⟨0, [((d / m : Nat) : Int), (m : Int)], [(m : Int), 1]⟩
    clear e13
    simp only []
    generalize offsT ⟨0, [((d / m : Nat) : Int), (m : Int)], [(m : Int), 1]⟩ = y13 at l13 r13 ⊢
    have p13 : rowsPre y13 m m = true := by
      simp only [rowsPre, Bool.and_eq_true, Bool.or_eq_true, decide_eq_true_eq, List.isEmpty_iff]
      refine ⟨⟨⟨⟨by omega, .inr (by omega)⟩, by omega⟩, by omega⟩, by omega⟩
    refine ⟨pre_enc (y13, (m : Int), (m : Int), ()) rfl p13, ?_⟩
    refine ex_enc (y13, (m : Int), (m : Int), ()) rfl ?_
    simp only [r13]
    rw [if_neg (by simp)]
    exact last
  · rw [if_neg h0]
    rw [if_neg (by simp; omega), if_neg (by simp)]
    exact last
end Go.Pl

