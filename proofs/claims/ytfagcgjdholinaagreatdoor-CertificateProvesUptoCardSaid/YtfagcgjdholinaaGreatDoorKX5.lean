/-
  Texts of mine that belong together (packed by pack.py), for every input: GL1, QL1, QL2, QLi, QLj, QL3, QL4, GL5, QL5, GL7, QL7, TyR, GLr, QRp, QRq, TyP, GLo, QLq, QLr, GLm, GLk, QLk, GLn, QLn, QLo, QLp.
-/
import Derived.Test.YtfagcgjdholinaaGreatDoorKX3
import Derived.Test.YtfagcgjdholinaaGreatDoorKX4
import Derived.KernelRfl
set_option linter.unusedVariables false
set_option linter.unusedSimpArgs false
namespace Go.Pl
open Go.RowKit
open Enc (enc dec is)
open EncL (encL decL isL)
set_option maxRecDepth 100000
def ic_rdig : IC := (.seq (.reg [⟨(some 2), (.mv (.c (.bool false))), 0, none⟩] none) (.seq (.reg [⟨(some 3), (.mv (.t 0)), 0, none⟩, ⟨(some 4), (.bin .num .geq (.t 3) (.c (.int .u8 48))), 0, none⟩, ⟨(some 5), (.mv (.t 4)), 0, none⟩, ⟨(some 6), (.mv (.t 0)), 0, (some (5, true))⟩, ⟨(some 7), (.bin .num .leq (.t 6) (.c (.int .u8 57))), 0, (some (5, true))⟩, ⟨(some 8), (.pick (.t 5) (.t 7) (.c (.bool false))), 0, none⟩, ⟨(some 2), (.mv (.t 8)), 0, none⟩] none) .ret))
def rs_rdig : List IRes := [(.tmp 2)]
abbrev nt_rdig : Nat := 9
def T_rdig : Tab := tab []
theorem rdig_s {G : PV -> Prop} (c : UInt8) (h : if (decide ((↑(UInt8.toNat c) : Int) ≥ 48)) = true then G ((.bool (decide ((↑(UInt8.toNat c) : Int) <= 57)))) else (G ((.bool false)))) : Gets T_rdig 0 (endP' rs_rdig G) ic_rdig [] (st0 9 [enc c]) := Gets.tp (.lit (.ask (.lit (.lit (.lit (.nil)))) (.lit (.lit (.nil))))) h (by kernel_rfl)
def ic_rlet : IC := (.seq (.reg [⟨(some 2), (.mv (.c (.bool false))), 0, none⟩] none) (.seq (.reg [⟨(some 3), (.mv (.t 0)), 0, none⟩, ⟨(some 4), (.bin .num .geq (.t 3) (.c (.int .u8 97))), 0, none⟩, ⟨(some 5), (.mv (.t 4)), 0, none⟩, ⟨(some 6), (.mv (.t 0)), 0, (some (5, true))⟩, ⟨(some 7), (.bin .num .leq (.t 6) (.c (.int .u8 122))), 0, (some (5, true))⟩, ⟨(some 8), (.pick (.t 5) (.t 7) (.c (.bool false))), 0, none⟩, ⟨(some 2), (.mv (.t 8)), 0, none⟩] none) .ret))
def rs_rlet : List IRes := [(.tmp 2)]
abbrev nt_rlet : Nat := 9
def T_rlet : Tab := tab []
theorem rlet_s {G : PV -> Prop} (c : UInt8) (h : if (decide ((↑(UInt8.toNat c) : Int) ≥ 97)) = true then G ((.bool (decide ((↑(UInt8.toNat c) : Int) <= 122)))) else (G ((.bool false)))) : Gets T_rlet 0 (endP' rs_rlet G) ic_rlet [] (st0 9 [enc c]) := Gets.tp (.lit (.ask (.lit (.lit (.lit (.nil)))) (.lit (.lit (.nil))))) h (by kernel_rfl)
def ic_rsmall : IC := (.seq (.reg [⟨(some 2), (.mv (.c (.bool false))), 0, none⟩] none) (.seq (.reg [⟨(some 3), (.mv (.t 0)), 0, none⟩, ⟨(some 4), (.bin .num .geq (.t 3) (.c (.int .i64 (-1000000)))), 0, none⟩, ⟨(some 5), (.mv (.t 4)), 0, none⟩, ⟨(some 6), (.mv (.t 0)), 0, (some (5, true))⟩, ⟨(some 7), (.bin .num .leq (.t 6) (.c (.int .i64 1000000))), 0, (some (5, true))⟩, ⟨(some 8), (.pick (.t 5) (.t 7) (.c (.bool false))), 0, none⟩, ⟨(some 2), (.mv (.t 8)), 0, none⟩] none) .ret))
def rs_rsmall : List IRes := [(.tmp 2)]
abbrev nt_rsmall : Nat := 9
def T_rsmall : Tab := tab []
theorem rsmall_s {G : PV -> Prop} (n : Int) (h : if (decide (n ≥ (-1000000 : Int))) = true then G ((.bool (decide (n <= 1000000)))) else (G ((.bool false)))) : Gets T_rsmall 0 (endP' rs_rsmall G) ic_rsmall [] (st0 9 [enc n]) := Gets.tp (.lit (.ask (.lit (.lit (.lit (.nil)))) (.lit (.lit (.nil))))) h (by kernel_rfl)
def ic_lin : IC := ic_rsmall
def rs_lin : List IRes := [(.tmp 2)]
abbrev nt_lin : Nat := 9
def T_lin : Tab := tab []
theorem lin_s {G : PV -> Prop} (n : Int) (h : if (decide (n ≥ (-1000000 : Int))) = true then G ((.bool (decide (n <= 1000000)))) else (G ((.bool false)))) : Gets T_lin 0 (endP' rs_lin G) ic_lin [] (st0 9 [enc n]) := Gets.tp (.lit (.ask (.lit (.lit (.lit (.nil)))) (.lit (.lit (.nil))))) h (by kernel_rfl)
def ic_rname : IC := (.seq (.reg [⟨(some 2), (.mv (.c (.bool false))), 0, none⟩] none) (.seq (.seq (.reg [⟨(some 5), (.mv (.t 0)), 0, none⟩, ⟨(some 6), (.len 0 (.t 5)), 0, none⟩, ⟨(some 7), (.bin .num .eql (.t 6) (.c (.int .i64 0))), 0, none⟩, ⟨(some 8), (.mv (.t 7)), 0, none⟩, ⟨(some 9), (.mv (.t 0)), 0, (some (8, false))⟩, ⟨(some 10), (.len 0 (.t 9)), 0, (some (8, false))⟩, ⟨(some 11), (.bin .num .gtr (.t 10) (.c (.int .i64 30))), 0, (some (8, false))⟩, ⟨(some 12), (.pick (.t 8) (.c (.bool true)) (.t 11)), 0, none⟩] none) (.cond (.t 12) (.seq (.reg [⟨(some 2), (.mv (.c (.bool false))), 0, none⟩] none) .ret) .skip)) (.seq (.seq (.reg [⟨(some 13), (.mv (.t 0)), 0, none⟩, ⟨(some 14), (.index (.t 13) (.c (.int .i64 0))), 0, none⟩, ⟨(some 15), (.bin .num .eql (.t 14) (.c (.int .u8 95))), 0, none⟩] none) (.cond (.t 15) (.seq (.seq (.reg [⟨(some 16), (.mv (.t 0)), 0, none⟩, ⟨(some 17), (.len 0 (.t 16)), 0, none⟩, ⟨(some 18), (.bin .num .lss (.t 17) (.c (.int .i64 2))), 0, none⟩, ⟨(some 19), (.mv (.t 18)), 0, none⟩, ⟨(some 20), (.mv (.t 0)), 0, (some (19, false))⟩, ⟨(some 21), (.len 0 (.t 20)), 0, (some (19, false))⟩, ⟨(some 22), (.bin .num .gtr (.t 21) (.c (.int .i64 10))), 0, (some (19, false))⟩, ⟨(some 23), (.pick (.t 19) (.c (.bool true)) (.t 22)), 0, none⟩, ⟨(some 24), (.mv (.t 23)), 0, none⟩, ⟨(some 25), (.mv (.t 0)), 0, (some (24, false))⟩, ⟨(some 26), (.index (.t 25) (.c (.int .i64 1))), 0, (some (24, false))⟩, ⟨(some 27), (.bin .num .eql (.t 26) (.c (.int .u8 48))), 0, (some (24, false))⟩, ⟨(some 28), (.pick (.t 24) (.c (.bool true)) (.t 27)), 0, none⟩] none) (.cond (.t 28) (.seq (.reg [⟨(some 2), (.mv (.c (.bool false))), 0, none⟩] none) .ret) .skip)) (.seq (.seq (.reg [⟨(some 3), (.mv (.c (.int .i64 1))), 0, none⟩] none) (.block 0 (.loop [3, 0] (.seq (.seq (.reg [⟨(some 29), (.mv (.t 3)), 0, none⟩, ⟨(some 30), (.mv (.t 0)), 0, none⟩, ⟨(some 31), (.len 0 (.t 30)), 0, none⟩, ⟨(some 32), (.bin .num .lss (.t 29) (.t 31)), 0, none⟩] none) (.cond (.t 32) .skip (.exit 0))) (.seq (.block 1 (.seq (.reg [⟨(some 35), (.mv (.t 0)), 0, none⟩, ⟨(some 36), (.mv (.t 3)), 0, none⟩, ⟨(some 37), (.index (.t 35) (.t 36)), 0, none⟩, ⟨(some 38), (.call (.c (.fn 135)) [(.t 37)]), 0, none⟩, ⟨(some 39), (.un .not (.t 38)), 2, none⟩] none) (.cond (.t 39) (.seq (.reg [⟨(some 2), (.mv (.c (.bool false))), 0, none⟩] none) .ret) .skip))) (.reg [⟨(some 33), (.mv (.t 3)), 0, none⟩, ⟨(some 34), (.bin .num .add (.t 33) (.c (.int .i64 1))), 0, none⟩, ⟨(some 3), (.mv (.t 34)), 0, none⟩] none)))))) (.seq (.reg [⟨(some 2), (.mv (.c (.bool true))), 0, none⟩] none) .ret))) .skip)) (.seq (.seq (.reg [⟨(some 4), (.mv (.c (.int .i64 0))), 0, none⟩] none) (.block 2 (.loop [4, 0] (.seq (.seq (.reg [⟨(some 40), (.mv (.t 4)), 0, none⟩, ⟨(some 41), (.mv (.t 0)), 0, none⟩, ⟨(some 42), (.len 0 (.t 41)), 0, none⟩, ⟨(some 43), (.bin .num .lss (.t 40) (.t 42)), 0, none⟩] none) (.cond (.t 43) .skip (.exit 2))) (.seq (.block 3 (.seq (.reg [⟨(some 46), (.mv (.t 0)), 0, none⟩, ⟨(some 47), (.mv (.t 4)), 0, none⟩, ⟨(some 48), (.index (.t 46) (.t 47)), 0, none⟩, ⟨(some 49), (.call (.c (.fn 136)) [(.t 48)]), 0, none⟩, ⟨(some 50), (.un .not (.t 49)), 2, none⟩, ⟨(some 51), (.mv (.t 50)), 2, none⟩, ⟨(some 52), (.mv (.t 4)), 2, (some (51, true))⟩, ⟨(some 53), (.bin .num .eql (.t 52) (.c (.int .i64 0))), 2, (some (51, true))⟩, ⟨(some 54), (.mv (.t 53)), 2, (some (51, true))⟩, ⟨(some 55), (.mv (.t 0)), 2, (some (54, false))⟩, ⟨(some 56), (.mv (.t 4)), 2, (some (54, false))⟩, ⟨(some 57), (.index (.t 55) (.t 56)), 2, (some (54, false))⟩, ⟨(some 58), (.call (.c (.fn 135)) [(.t 57)]), 2, (some (54, false))⟩, ⟨(some 59), (.un .not (.t 58)), 4, (some (54, false))⟩, ⟨(some 60), (.pick (.t 54) (.c (.bool true)) (.t 59)), 4, (some (51, true))⟩, ⟨(some 61), (.pick (.t 51) (.t 60) (.c (.bool false))), 4, none⟩] none) (.cond (.t 61) (.seq (.reg [⟨(some 2), (.mv (.c (.bool false))), 0, none⟩] none) .ret) .skip))) (.reg [⟨(some 44), (.mv (.t 4)), 0, none⟩, ⟨(some 45), (.bin .num .add (.t 44) (.c (.int .i64 1))), 0, none⟩, ⟨(some 4), (.mv (.t 45)), 0, none⟩] none)))))) (.seq (.reg [⟨(some 2), (.mv (.c (.bool true))), 0, none⟩] none) .ret)))))
def rs_rname : List IRes := [(.tmp 2)]
abbrev nt_rname : Nat := 62
def T_rname : Tab := tab [(135, .pure (preT (fun _ : UInt8 × Unit => true)) (valT (fun x : UInt8 × Unit => digB x.1))), (136, .pure (preT (fun _ : UInt8 × Unit => true)) (valT (fun x : UInt8 × Unit => lowB x.1)))]
theorem rname_s {G : PV -> Prop} (s : List UInt8) (h : if ((↑(List.length s) : Int) == 0) = true then G ((.bool false)) else (if (decide ((↑(List.length s) : Int) > 30)) = true then G ((.bool false)) else ((decide (0 <= 0) && decide (Int.toNat 0 < List.length s)) = true ∧ (if ((↑(UInt8.toNat (List.getD s (Int.toNat 0) (0 : UInt8))) : Int) == 95) = true then if (decide ((↑(List.length s) : Int) < 2)) = true then G ((.bool false)) else (if (decide ((↑(List.length s) : Int) > 10)) = true then G ((.bool false)) else ((decide (0 <= 1) && decide (Int.toNat 1 < List.length s)) = true ∧ (if ((↑(UInt8.toNat (List.getD s (Int.toNat 1) (0 : UInt8))) : Int) == 48) = true then G ((.bool false)) else (At T_rname 0 (endP' rs_rname G) ic_rname 0 62 [(0, (.pv (.str s))), (3, (.pv (.int .i64 1)))] [])))) else (At T_rname 0 (endP' rs_rname G) ic_rname 1 62 [(0, (.pv (.str s))), (4, (.pv (.int .i64 0)))] []))))) : Gets T_rname 0 (endP' rs_rname G) ic_rname [] (st0 62 [.str s]) := Gets.tp (.lit (.ask (.lit (.lit (.lit (.lit (.nil))))) (.lit (.lit (.lit (.lit (.ask (.nil) (.req (.lit (.ask (.lit (.ask (.lit (.lit (.lit (.lit (.lit (.lit (.lit (.lit (.nil))))))))) (.lit (.lit (.lit (.lit (.ask (.lit (.lit (.lit (.lit (.nil))))) (.lit (.req (.lit (.lit (.lit (.ask (.nil) (.nil)))))))))))))) (.nil))))))))))) h (by kernel_rfl)
theorem rname_h0 {G : PV -> Prop} (s : List UInt8) (i : Int) (h : if (decide (i < (↑(List.length s) : Int))) = true then (decide (0 <= i) && decide (Int.toNat i < List.length s)) = true ∧ ((Go.Pl.preT (fun (x : UInt8 × Unit) => true) [(.int IntKind.u8 (↑(UInt8.toNat (List.getD s (Int.toNat i) (0 : UInt8))) : Int))]) = true ∧ (∃ y0 : Bool, AV.pv (valT (fun (x : UInt8 × Unit) => digB x.1) [(.int IntKind.u8 (↑(UInt8.toNat (List.getD s (Int.toNat i) (0 : UInt8))) : Int))]) = AV.pv (enc y0) ∧ (if (!y0) = true then G ((.bool false)) else (At T_rname 0 (endP' rs_rname G) ic_rname 0 62 [(0, (.pv (.str s))), (3, (.pv (.int .i64 (IntKind.wrap IntKind.i64 (i + 1)))))] [])))) else (G ((.bool true)))) : At T_rname 0 (endP' rs_rname G) ic_rname 0 62 [(0, .pv (.str s)), (3, .pv (.int .i64 i))] [] := At.tp (.lit (.ask (.req (.req (.abs (Bool) (fun YY => AV.pv (enc YY)) (.ask (.nil) (.lit (.nil)))))) (.nil))) h (by kernel_rfl)
theorem rname_h1 {G : PV -> Prop} (s : List UInt8) (i : Int) (h : if (decide (i < (↑(List.length s) : Int))) = true then (decide (0 <= i) && decide (Int.toNat i < List.length s)) = true ∧ ((Go.Pl.preT (fun (x : UInt8 × Unit) => true) [(.int IntKind.u8 (↑(UInt8.toNat (List.getD s (Int.toNat i) (0 : UInt8))) : Int))]) = true ∧ (∃ y0 : Bool, AV.pv (valT (fun (x : UInt8 × Unit) => lowB x.1) [(.int IntKind.u8 (↑(UInt8.toNat (List.getD s (Int.toNat i) (0 : UInt8))) : Int))]) = AV.pv (enc y0) ∧ (if (!y0) = true then if (i == 0) = true then G ((.bool false)) else ((decide (0 <= i) && decide (Int.toNat i < List.length s)) = true ∧ ((Go.Pl.preT (fun (x : UInt8 × Unit) => true) [(.int IntKind.u8 (↑(UInt8.toNat (List.getD s (Int.toNat i) (0 : UInt8))) : Int))]) = true ∧ (∃ y1 : Bool, AV.pv (valT (fun (x : UInt8 × Unit) => digB x.1) [(.int IntKind.u8 (↑(UInt8.toNat (List.getD s (Int.toNat i) (0 : UInt8))) : Int))]) = AV.pv (enc y1) ∧ (if (!y1) = true then G ((.bool false)) else (At T_rname 0 (endP' rs_rname G) ic_rname 1 62 [(0, (.pv (.str s))), (4, (.pv (.int .i64 (IntKind.wrap IntKind.i64 (i + 1)))))] []))))) else (At T_rname 0 (endP' rs_rname G) ic_rname 1 62 [(0, (.pv (.str s))), (4, (.pv (.int .i64 (IntKind.wrap IntKind.i64 (i + 1)))))] [])))) else (G ((.bool true)))) : At T_rname 0 (endP' rs_rname G) ic_rname 1 62 [(0, .pv (.str s)), (4, .pv (.int .i64 i))] [] := At.tp (.lit (.ask (.req (.req (.abs (Bool) (fun YY => AV.pv (enc YY)) (.ask (.lit (.lit (.lit (.ask (.lit (.lit (.lit (.lit (.lit (.lit (.lit (.lit (.nil))))))))) (.lit (.lit (.req (.lit (.req (.abs (Bool) (fun YY => AV.pv (enc YY)) (.lit (.lit (.lit (.lit (.ask (.nil) (.lit (.nil))))))))))))))))) (.lit (.lit (.lit (.lit (.lit (.lit (.nil))))))))))) (.nil))) h (by kernel_rfl)
def ic_rvalid : IC := (.seq (.reg [⟨(some 1), (.box 2 (.t 0)), 0, none⟩, ⟨(some 2), (.mv (.c (.bool false))), 1, none⟩] none) (.seq (.seq (.reg [⟨(some 5), (.faddr 0 (.t 1)), 0, none⟩, ⟨(some 6), (.load false [(.int .i64)] (.t 5)), 0, none⟩, ⟨(some 7), (.call (.c (.fn 86)) [(.t 6)]), 0, none⟩, ⟨(some 8), (.un .not (.t 7)), 2, none⟩, ⟨(some 9), (.mv (.t 8)), 2, none⟩, ⟨(some 10), (.faddr 1 (.t 1)), 2, (some (9, false))⟩, ⟨(some 11), (.load false [(.sl 2)] (.t 10)), 2, (some (9, false))⟩, ⟨(some 12), (.len 1 (.t 11)), 2, (some (9, false))⟩, ⟨(some 13), (.bin .num .gtr (.t 12) (.c (.int .i64 12))), 2, (some (9, false))⟩, ⟨(some 14), (.pick (.t 9) (.c (.bool true)) (.t 13)), 2, none⟩] none) (.cond (.t 14) (.seq (.reg [⟨(some 2), (.mv (.c (.bool false))), 0, none⟩] none) .ret) .skip)) (.seq (.seq (.reg [⟨(some 3), (.mv (.c (.int .i64 0))), 0, none⟩] none) (.block 0 (.loop [3, 1] (.seq (.seq (.reg [⟨(some 15), (.mv (.t 3)), 0, none⟩, ⟨(some 16), (.faddr 1 (.t 1)), 0, none⟩, ⟨(some 17), (.load false [(.sl 2)] (.t 16)), 0, none⟩, ⟨(some 18), (.len 1 (.t 17)), 0, none⟩, ⟨(some 19), (.bin .num .lss (.t 15) (.t 18)), 0, none⟩] none) (.cond (.t 19) .skip (.exit 0))) (.seq (.block 1 (.seq (.reg [⟨(some 22), (.faddr 1 (.t 1)), 0, none⟩, ⟨(some 23), (.load false [(.sl 2)] (.t 22)), 0, none⟩, ⟨(some 24), (.mv (.t 3)), 0, none⟩, ⟨(some 25), (.iaddr 2 (.t 23) (.t 24)), 0, none⟩, ⟨(some 26), (.load true [.str, (.int .i64)] (.t 25)), 0, none⟩, ⟨(some 4), (.alloc (.agg [(.str []), (.int .i64 0)])), 0, none⟩, ⟨none, (.store 2 (.t 4) (.t 26)), 1, none⟩] none) (.seq (.reg [⟨(some 27), (.faddr 0 (.t 4)), 0, none⟩, ⟨(some 28), (.load false [.str] (.t 27)), 0, none⟩, ⟨(some 29), (.call (.c (.fn 87)) [(.t 28)]), 0, none⟩, ⟨(some 30), (.un .not (.t 29)), 2, none⟩, ⟨(some 31), (.mv (.t 30)), 2, none⟩, ⟨(some 32), (.faddr 1 (.t 4)), 2, (some (31, false))⟩, ⟨(some 33), (.load false [(.int .i64)] (.t 32)), 2, (some (31, false))⟩, ⟨(some 34), (.bin .num .eql (.t 33) (.c (.int .i64 0))), 2, (some (31, false))⟩, ⟨(some 35), (.pick (.t 31) (.c (.bool true)) (.t 34)), 2, none⟩, ⟨(some 36), (.mv (.t 35)), 2, none⟩, ⟨(some 37), (.faddr 1 (.t 4)), 2, (some (36, false))⟩, ⟨(some 38), (.load false [(.int .i64)] (.t 37)), 2, (some (36, false))⟩, ⟨(some 39), (.call (.c (.fn 86)) [(.t 38)]), 2, (some (36, false))⟩, ⟨(some 40), (.un .not (.t 39)), 4, (some (36, false))⟩, ⟨(some 41), (.pick (.t 36) (.c (.bool true)) (.t 40)), 4, none⟩, ⟨(some 42), (.mv (.t 41)), 4, none⟩, ⟨(some 43), (.mv (.t 3)), 4, (some (42, false))⟩, ⟨(some 44), (.bin .num .gtr (.t 43) (.c (.int .i64 0))), 4, (some (42, false))⟩, ⟨(some 45), (.mv (.t 44)), 4, (some (42, false))⟩, ⟨(some 46), (.faddr 1 (.t 1)), 4, (some (45, true))⟩, ⟨(some 47), (.load false [(.sl 2)] (.t 46)), 4, (some (45, true))⟩, ⟨(some 48), (.mv (.t 3)), 4, (some (45, true))⟩, ⟨(some 49), (.bin .num .sub (.t 48) (.c (.int .i64 1))), 4, (some (45, true))⟩, ⟨(some 50), (.iaddr 2 (.t 47) (.t 49)), 4, (some (45, true))⟩, ⟨(some 51), (.faddr 0 (.t 50)), 4, (some (45, true))⟩, ⟨(some 52), (.load false [.str] (.t 51)), 4, (some (45, true))⟩, ⟨(some 53), (.faddr 0 (.t 4)), 4, (some (45, true))⟩, ⟨(some 54), (.load false [.str] (.t 53)), 4, (some (45, true))⟩, ⟨(some 55), (.bin .num .geq (.t 52) (.t 54)), 4, (some (45, true))⟩, ⟨(some 56), (.pick (.t 45) (.t 55) (.c (.bool false))), 4, (some (42, false))⟩, ⟨(some 57), (.pick (.t 42) (.c (.bool true)) (.t 56)), 4, none⟩] (some [[], [0], [1, 0], [2, 1, 0], [3, 2, 1, 0], [4, 3, 2, 1, 0], [5, 4, 3, 2, 1, 0], [6, 4, 5, 3, 2, 1, 0], [4, 7, 3, 2, 1, 0, 6, 5], [8, 4, 7, 3, 2, 1, 0, 6, 5], [9, 8, 4, 7, 3, 2, 1, 0, 6, 5], [10, 9, 8, 4, 7, 3, 2, 1, 0, 6, 5], [11, 9, 10, 8, 4, 7, 3, 2, 1, 0, 6, 5], [12, 9, 11, 10, 8, 4, 7, 3, 2, 1, 0, 6, 5], [9, 13, 8, 4, 7, 3, 2, 1, 0, 6, 5, 12, 11, 10], [14, 12, 9, 13, 8, 4, 7, 3, 2, 1, 0, 6, 5, 11, 10], [15, 14, 12, 9, 13, 8, 4, 7, 3, 2, 1, 0, 6, 5, 11, 10], [16, 15, 14, 12, 9, 13, 8, 4, 7, 3, 2, 1, 0, 6, 5, 11, 10], [17, 15, 16, 14, 12, 9, 13, 8, 4, 7, 3, 2, 1, 0, 6, 5, 11, 10], [18, 17, 15, 16, 14, 12, 9, 13, 8, 4, 7, 3, 2, 1, 0, 6, 5, 11, 10], [19, 18, 17, 15, 16, 14, 12, 9, 13, 8, 4, 7, 3, 2, 1, 0, 6, 5, 11, 10], [18, 17, 15, 16, 14, 12, 9, 13, 8, 4, 7, 3, 2, 1, 0, 6, 5, 11, 10], [21, 18, 17, 15, 16, 14, 12, 9, 13, 8, 4, 7, 3, 2, 1, 0, 6, 5, 11, 10], [20, 22, 18, 19, 17, 15, 16, 14, 12, 9, 13, 8, 4, 7, 3, 2, 1, 0, 6, 5, 11, 10, 21], [23, 18, 20, 22, 19, 17, 15, 16, 14, 12, 9, 13, 8, 4, 7, 3, 2, 1, 0, 6, 5, 11, 10, 21], [24, 18, 23, 20, 22, 19, 17, 15, 16, 14, 12, 9, 13, 8, 4, 7, 3, 2, 1, 0, 6, 5, 11, 10, 21], [18, 17, 15, 16, 14, 12, 9, 13, 8, 4, 7, 3, 2, 1, 0, 6, 5, 11, 10], [26, 18, 17, 15, 16, 14, 12, 9, 13, 8, 4, 7, 3, 2, 1, 0, 6, 5, 11, 10], [25, 27, 18, 24, 23, 20, 22, 19, 17, 15, 16, 14, 12, 9, 13, 8, 4, 7, 3, 2, 1, 0, 6, 5, 11, 10, 21, 26], [18, 28, 15, 17, 16, 14, 12, 9, 13, 8, 4, 7, 3, 2, 1, 0, 6, 5, 11, 10, 25, 27, 24, 23, 20, 22, 19, 21, 26], [15, 29, 14, 12, 9, 13, 8, 4, 7, 3, 2, 1, 0, 6, 5, 11, 10, 18, 28, 17, 16, 25, 27, 24, 23, 20, 22, 19, 21, 26]])) (.cond (.t 57) (.seq (.reg [⟨(some 2), (.mv (.c (.bool false))), 0, none⟩] none) .ret) .skip)))) (.reg [⟨(some 20), (.mv (.t 3)), 0, none⟩, ⟨(some 21), (.bin .num .add (.t 20) (.c (.int .i64 1))), 0, none⟩, ⟨(some 3), (.mv (.t 21)), 0, none⟩] none)))))) (.seq (.reg [⟨(some 2), (.mv (.c (.bool true))), 0, none⟩] none) .ret))))
def rs_rvalid : List IRes := [(.tmp 2)]
abbrev nt_rvalid : Nat := 58
def T_rvalid : Tab := tab [(86, .pure (preT (fun _ : Int × Unit => true)) (valT (fun x : Int × Unit => coefIn x.1))), (87, .pure (preT (fun _ : Str × Unit => true)) (valT (fun x : Str × Unit => nameB x.1)))]
theorem rvalid_s {G : PV -> Prop} (l : Lin) (h : ∃ y0 : Bool, AV.pv (valT (fun (x : Int × Unit) => coefIn x.1) [(.int .i64 l.k)]) = AV.pv (enc y0) ∧ (if (!y0) = true then G ((.bool false)) else (if (decide ((↑(List.length (List.map enc l.t)) : Int) > 12)) = true then G ((.bool false)) else (At T_rvalid 0 (endP' rs_rvalid G) ic_rvalid 0 58 [(1, (.ptr 0 0)), (3, (.pv (.int .i64 0)))] [(.obj (.box [(.pv (.int .i64 l.k)), (.pv (.sl 2 false (List.map enc l.t)))]))])))) : Gets T_rvalid 0 (endP' rs_rvalid G) ic_rvalid [] (st0 58 [enc l]) := Gets.tp (.lit (.abs (Bool) (fun YY => AV.pv (enc YY)) (.ask (.lit (.lit (.lit (.lit (.lit (.nil)))))) (.lit (.lit (.lit (.lit (.lit (.ask (.nil) (.nil)))))))))) h (by kernel_rfl)
theorem rvalid_h0 {G : PV -> Prop} (l : Lin) (i : Int) (h : if (decide (i < (↑(List.length (List.map enc l.t)) : Int))) = true then (decide (0 <= i) && decide (Int.toNat i < List.length (List.map enc l.t)) && Enc.sz Coef == 2) = true ∧ (∃ y0 : Coef, AV.pv (PV.rptr (PV.cells (List.getD (List.map enc l.t) (Int.toNat i) default))) = AV.pv (PV.rptr (PV.cells ((enc) y0))) ∧ (∃ y1 : Bool, AV.pv (valT (fun (x : Str × Unit) => nameB x.1) [(.str (PV.asStr (List.getD (PV.cells (enc y0)) 0 default)))]) = AV.pv (enc y1) ∧ (if (!y1) = true then G ((.bool false)) else (if (PV.asInt (List.getD (PV.cells (enc y0)) (0 + 1) default) == 0) = true then G ((.bool false)) else (∃ y2 : Bool, AV.pv (valT (fun (x : Int × Unit) => coefIn x.1) [(.int .i64 (PV.asInt (List.getD (PV.cells (enc y0)) (0 + 1) default)))]) = AV.pv (enc y2) ∧ (if (!y2) = true then G ((.bool false)) else (if (decide (i > 0)) = true then (decide (0 <= IntKind.wrap IntKind.i64 (i - 1)) && decide (Int.toNat (IntKind.wrap IntKind.i64 (i - 1)) < List.length (List.map enc l.t)) && Enc.sz Coef == 2) = true ∧ (∃ y3 : Coef, AV.pv (PV.rptr (PV.cells (List.getD (List.map enc l.t) (Int.toNat (IntKind.wrap IntKind.i64 (i - 1))) default))) = AV.pv (PV.rptr (PV.cells ((enc) y3))) ∧ (if (!Op.bytesLess (PV.asStr (List.getD (List.drop 0 (PV.cells (enc y3))) 0 default)) (PV.asStr (List.getD (PV.cells (enc y0)) 0 default))) = true then G ((.bool false)) else (At T_rvalid 0 (endP' rs_rvalid G) ic_rvalid 0 58 [(1, (.ptr 0 0)), (3, (.pv (.int .i64 (IntKind.wrap IntKind.i64 (i + 1)))))] [(.obj (.box [(.pv (.int .i64 l.k)), (.pv (.sl 2 false (List.map enc l.t)))]))]))) else (At T_rvalid 0 (endP' rs_rvalid G) ic_rvalid 0 58 [(1, (.ptr 0 0)), (3, (.pv (.int .i64 (IntKind.wrap IntKind.i64 (i + 1)))))] [(.obj (.box [(.pv (.int .i64 l.k)), (.pv (.sl 2 false (List.map enc l.t)))]))])))))))) else (G ((.bool true)))) : At T_rvalid 0 (endP' rs_rvalid G) ic_rvalid 0 58 [(1, .ptr 0 0), (3, .pv (.int .i64 i))] [.obj (.box [.pv (.int .i64 l.k), .pv (enc l.t)])] := At.tp (.lit (.ask (.req (.abs (Coef) (fun YY => AV.pv (PV.rptr (PV.cells ((enc) YY)))) (.lit (.lit (.abs (Bool) (fun YY => AV.pv (enc YY)) (.ask (.lit (.lit (.lit (.lit (.lit (.lit (.lit (.lit (.lit (.lit (.lit (.lit (.lit (.lit (.nil))))))))))))))) (.lit (.lit (.lit (.lit (.ask (.lit (.lit (.lit (.lit (.lit (.lit (.lit (.lit (.lit (.lit (.nil))))))))))) (.lit (.lit (.lit (.abs (Bool) (fun YY => AV.pv (enc YY)) (.lit (.lit (.ask (.lit (.lit (.lit (.lit (.lit (.nil)))))) (.lit (.lit (.lit (.ask (.lit (.lit (.lit (.lit (.lit (.req (.abs (Coef) (fun YY => AV.pv (PV.rptr (PV.cells ((enc) YY)))) (.lit (.lit (.lit (.lit (.lit (.lit (.lit (.lit (.lit (.lit (.ask (.nil) (.lit (.nil)))))))))))))))))))) (.lit (.lit (.lit (.lit (.lit (.lit (.lit (.lit (.lit (.lit (.lit (.lit (.lit (.lit (.nil))))))))))))))))))))))))))))))))))))) (.nil))) h (by kernel_rfl)
def ic_csize : IC := (.seq (.reg [⟨(some 1), (.box 5 (.t 0)), 0, none⟩, ⟨(some 2), (.mv (.c (.int .i64 0))), 1, none⟩] none) (.seq (.reg [⟨(some 3), (.mv (.c (.int .i64 1))), 0, none⟩] none) (.seq (.seq (.reg [⟨(some 6), (.faddr 4 (.t 1)), 0, none⟩, ⟨(some 7), (.load false [(.sl 5)] (.t 6)), 0, none⟩, ⟨(some 8), (.len 1 (.t 7)), 0, none⟩, ⟨(some 9), (.mv (.c (.int .i64 0))), 0, none⟩] none) (.block 0 (.loop [9, 8, 7, 3] (.seq (.reg [⟨(some 10), (.bin .num .lss (.t 9) (.t 8)), 0, none⟩] none) (.seq (.cond (.t 10) .skip (.exit 0)) (.seq (.block 1 (.seq (.reg [⟨(some 11), (.iaddr 5 (.t 7) (.t 9)), 0, none⟩, ⟨(some 12), (.load true [(.int .i64), (.sl 1), (.int .i64), (.sl 2), (.sl 5)] (.t 11)), 0, none⟩, ⟨(some 5), (.alloc (.agg [(.int .i64 0), (.sl 0 true []), (.int .i64 0), (.sl 0 true []), (.sl 0 true [])])), 0, none⟩, ⟨none, (.store 5 (.t 5) (.t 12)), 1, none⟩] none) (.reg [⟨(some 13), (.mv (.t 3)), 0, none⟩, ⟨(some 14), (.load true [(.int .i64), (.sl 1), (.int .i64), (.sl 2), (.sl 5)] (.t 5)), 0, none⟩, ⟨(some 15), (.call (.c (.fn 17)) [(.t 14)]), 0, none⟩, ⟨(some 16), (.bin .num .add (.t 13) (.t 15)), 2, none⟩, ⟨(some 3), (.mv (.t 16)), 2, none⟩] none))) (.reg [⟨(some 17), (.bin .num .add (.t 9) (.c (.int .i64 1))), 0, none⟩, ⟨(some 9), (.mv (.t 17)), 0, none⟩] none))))))) (.seq (.reg [⟨(some 18), (.mv (.t 3)), 0, none⟩, ⟨(some 2), (.mv (.t 18)), 0, none⟩] none) .ret))))
def rs_csize : List IRes := [(.tmp 2)]
abbrev nt_csize : Nat := 19
def T_csize (N : Nat) : Tab := tab [(17, .pure (preT (fun x : Cert × Unit => cOk x.1 && decide (depC x.1 < N))) (valT (fun x : Cert × Unit => sizeC x.1)))]
theorem csize_s {G : PV -> Prop} (N : Nat) (k : Int) (m : List Int) (l : Lin) (ks : List Cert) (h : At (T_csize N) 0 (endP' rs_csize G) ic_csize 0 19 [(3, (.pv (.int .i64 1))), (7, (.pv (.sl 5 false (List.map enc ks)))), (8, (.pv (.int .i64 (↑(List.length (List.map enc ks)) : Int)))), (9, (.pv (.int .i64 0)))] []) : Gets (T_csize N) 0 (endP' rs_csize G) ic_csize [] (st0 19 [.agg [enc k, enc m, enc l.k, enc l.t, enc ks]]) := Gets.tp (.nil) h (by kernel_rfl)
theorem csize_h0 {G : PV -> Prop} (N : Nat) (k : Int) (m : List Int) (l : Lin) (ks : List Cert) (n i : Int) (h : if (decide (i < (↑(List.length ks) : Int))) = true then (decide (0 <= i) && decide (Int.toNat i < List.length (List.map enc ks)) && Enc.sz Cert == 5) = true ∧ (∃ y0 : Cert, AV.pv (PV.rptr (PV.cells (List.getD (List.map enc ks) (Int.toNat i) default))) = AV.pv (PV.rptr (PV.cells ((enc) y0))) ∧ ((decide (0 + List.length [Sh.int .i64, Sh.sl 1, Sh.int .i64, Sh.sl 2, Sh.sl 5] <= List.length (PV.cells (enc y0))) && shFit (PV.cells (enc y0)) 0 [Sh.int .i64, Sh.sl 1, Sh.int .i64, Sh.sl 2, Sh.sl 5]) = true ∧ ((Go.Pl.preT (fun (x : Cert × Unit) => cOk x.1 && decide (depC x.1 < N)) [(.agg [(.int .i64 (PV.asInt (List.getD (PV.cells (enc y0)) 0 default))), (.sl 1 (PV.asT (List.getD (PV.cells (enc y0)) (0 + 1) default)) (PV.asXs (List.getD (PV.cells (enc y0)) (0 + 1) default))), (.int .i64 (PV.asInt (List.getD (PV.cells (enc y0)) (0 + 1 + 1) default))), (.sl 2 (PV.asT (List.getD (PV.cells (enc y0)) (0 + 1 + 1 + 1) default)) (PV.asXs (List.getD (PV.cells (enc y0)) (0 + 1 + 1 + 1) default))), (.sl 5 (PV.asT (List.getD (PV.cells (enc y0)) (0 + 1 + 1 + 1 + 1) default)) (PV.asXs (List.getD (PV.cells (enc y0)) (0 + 1 + 1 + 1 + 1) default)))])]) = true ∧ (∃ y1 : Int, AV.pv (valT (fun (x : Cert × Unit) => sizeC x.1) [(.agg [(.int .i64 (PV.asInt (List.getD (PV.cells (enc y0)) 0 default))), (.sl 1 (PV.asT (List.getD (PV.cells (enc y0)) (0 + 1) default)) (PV.asXs (List.getD (PV.cells (enc y0)) (0 + 1) default))), (.int .i64 (PV.asInt (List.getD (PV.cells (enc y0)) (0 + 1 + 1) default))), (.sl 2 (PV.asT (List.getD (PV.cells (enc y0)) (0 + 1 + 1 + 1) default)) (PV.asXs (List.getD (PV.cells (enc y0)) (0 + 1 + 1 + 1) default))), (.sl 5 (PV.asT (List.getD (PV.cells (enc y0)) (0 + 1 + 1 + 1 + 1) default)) (PV.asXs (List.getD (PV.cells (enc y0)) (0 + 1 + 1 + 1 + 1) default)))])]) = AV.pv (enc y1) ∧ (At (T_csize N) 0 (endP' rs_csize G) ic_csize 0 19 [(3, (.pv (.int .i64 (IntKind.wrap IntKind.i64 (n + y1))))), (7, (.pv (.sl 5 false (List.map enc ks)))), (8, (.pv (.int .i64 (↑(List.length ks) : Int)))), (9, (.pv (.int .i64 (IntKind.wrap IntKind.i64 (i + 1)))))] []))))) else (G ((.int .i64 n)))) : At (T_csize N) 0 (endP' rs_csize G) ic_csize 0 19 [(3, .pv (.int .i64 n)), (7, .pv (enc ks)), (8, .pv (.int .i64 ks.length)), (9, .pv (.int .i64 i))] [] := At.tp (.lit (.ask (.req (.abs (Cert) (fun YY => AV.pv (PV.rptr (PV.cells ((enc) YY)))) (.req (.req (.abs (Int) (fun YY => AV.pv (enc YY)) (.lit (.lit (.nil)))))))) (.nil))) h (by kernel_rfl)
def ic_rcsize : IC := (.seq (.reg [⟨(some 1), (.box 5 (.t 0)), 0, none⟩, ⟨(some 2), (.mv (.c (.int .i64 0))), 1, none⟩] none) (.seq (.reg [⟨(some 3), (.mv (.c (.int .i64 1))), 0, none⟩] none) (.seq (.seq (.reg [⟨(some 4), (.mv (.c (.int .i64 0))), 0, none⟩] none) (.block 0 (.loop [4, 1, 3] (.seq (.seq (.reg [⟨(some 5), (.mv (.t 4)), 0, none⟩, ⟨(some 6), (.faddr 4 (.t 1)), 0, none⟩, ⟨(some 7), (.load false [(.sl 5)] (.t 6)), 0, none⟩, ⟨(some 8), (.len 1 (.t 7)), 0, none⟩, ⟨(some 9), (.bin .num .lss (.t 5) (.t 8)), 0, none⟩] none) (.cond (.t 9) .skip (.exit 0))) (.seq (.block 1 (.reg [⟨(some 12), (.mv (.t 3)), 0, none⟩, ⟨(some 13), (.faddr 4 (.t 1)), 0, none⟩, ⟨(some 14), (.load false [(.sl 5)] (.t 13)), 0, none⟩, ⟨(some 15), (.mv (.t 4)), 0, none⟩, ⟨(some 16), (.iaddr 5 (.t 14) (.t 15)), 0, none⟩, ⟨(some 17), (.load true [(.int .i64), (.sl 1), (.int .i64), (.sl 2), (.sl 5)] (.t 16)), 0, none⟩, ⟨(some 18), (.call (.c (.fn 18)) [(.t 17)]), 0, none⟩, ⟨(some 19), (.bin .num .add (.t 12) (.t 18)), 2, none⟩, ⟨(some 3), (.mv (.t 19)), 2, none⟩] none)) (.reg [⟨(some 10), (.mv (.t 4)), 0, none⟩, ⟨(some 11), (.bin .num .add (.t 10) (.c (.int .i64 1))), 0, none⟩, ⟨(some 4), (.mv (.t 11)), 0, none⟩] none)))))) (.seq (.reg [⟨(some 20), (.mv (.t 3)), 0, none⟩, ⟨(some 2), (.mv (.t 20)), 0, none⟩] none) .ret))))
def rs_rcsize : List IRes := [(.tmp 2)]
abbrev nt_rcsize : Nat := 21
def T_rcsize (N : Nat) : Tab := tab [(18, .pure (preT (fun x : Cert × Unit => cOk x.1 && decide (depC x.1 < N))) (valT (fun x : Cert × Unit => sizeC x.1)))]
theorem rcsize_s {G : PV -> Prop} (N : Nat) (k : Int) (m : List Int) (l : Lin) (ks : List Cert) (h : At (T_rcsize N) 0 (endP' rs_rcsize G) ic_rcsize 0 21 [(1, (.ptr 0 0)), (3, (.pv (.int .i64 1))), (4, (.pv (.int .i64 0)))] [(.obj (.box [(.pv (.int .i64 k)), (.pv (.sl 1 false (List.map enc m))), (.pv (.int .i64 l.k)), (.pv (.sl 2 false (List.map enc l.t))), (.pv (.sl 5 false (List.map enc ks)))]))]) : Gets (T_rcsize N) 0 (endP' rs_rcsize G) ic_rcsize [] (st0 21 [.agg [enc k, enc m, enc l.k, enc l.t, enc ks]]) := Gets.tp (.nil) h (by kernel_rfl)
theorem rcsize_h0 {G : PV -> Prop} (N : Nat) (k : Int) (m : List Int) (l : Lin) (ks : List Cert) (n i : Int) (h : if (decide (i < (↑(List.length (List.map enc ks)) : Int))) = true then (decide (0 <= i) && decide (Int.toNat i < List.length (List.map enc ks)) && Enc.sz Cert == 5) = true ∧ (∃ y0 : Cert, AV.pv (PV.rptr (PV.cells (List.getD (List.map enc ks) (Int.toNat i) default))) = AV.pv (PV.rptr (PV.cells ((enc) y0))) ∧ ((decide (0 + List.length [Sh.int .i64, Sh.sl 1, Sh.int .i64, Sh.sl 2, Sh.sl 5] <= List.length (PV.cells (enc y0))) && shFit (PV.cells (enc y0)) 0 [Sh.int .i64, Sh.sl 1, Sh.int .i64, Sh.sl 2, Sh.sl 5]) = true ∧ ((Go.Pl.preT (fun (x : Cert × Unit) => cOk x.1 && decide (depC x.1 < N)) [(.agg [(.int .i64 (PV.asInt (List.getD (PV.cells (enc y0)) 0 default))), (.sl 1 (PV.asT (List.getD (PV.cells (enc y0)) (0 + 1) default)) (PV.asXs (List.getD (PV.cells (enc y0)) (0 + 1) default))), (.int .i64 (PV.asInt (List.getD (PV.cells (enc y0)) (0 + 1 + 1) default))), (.sl 2 (PV.asT (List.getD (PV.cells (enc y0)) (0 + 1 + 1 + 1) default)) (PV.asXs (List.getD (PV.cells (enc y0)) (0 + 1 + 1 + 1) default))), (.sl 5 (PV.asT (List.getD (PV.cells (enc y0)) (0 + 1 + 1 + 1 + 1) default)) (PV.asXs (List.getD (PV.cells (enc y0)) (0 + 1 + 1 + 1 + 1) default)))])]) = true ∧ (∃ y1 : Int, AV.pv (valT (fun (x : Cert × Unit) => sizeC x.1) [(.agg [(.int .i64 (PV.asInt (List.getD (PV.cells (enc y0)) 0 default))), (.sl 1 (PV.asT (List.getD (PV.cells (enc y0)) (0 + 1) default)) (PV.asXs (List.getD (PV.cells (enc y0)) (0 + 1) default))), (.int .i64 (PV.asInt (List.getD (PV.cells (enc y0)) (0 + 1 + 1) default))), (.sl 2 (PV.asT (List.getD (PV.cells (enc y0)) (0 + 1 + 1 + 1) default)) (PV.asXs (List.getD (PV.cells (enc y0)) (0 + 1 + 1 + 1) default))), (.sl 5 (PV.asT (List.getD (PV.cells (enc y0)) (0 + 1 + 1 + 1 + 1) default)) (PV.asXs (List.getD (PV.cells (enc y0)) (0 + 1 + 1 + 1 + 1) default)))])]) = AV.pv (enc y1) ∧ (At (T_rcsize N) 0 (endP' rs_rcsize G) ic_rcsize 0 21 [(1, (.ptr 0 0)), (3, (.pv (.int .i64 (IntKind.wrap IntKind.i64 (n + y1))))), (4, (.pv (.int .i64 (IntKind.wrap IntKind.i64 (i + 1)))))] [(.obj (.box [(.pv (.int .i64 k)), (.pv (.sl 1 false (List.map enc m))), (.pv (.int .i64 l.k)), (.pv (.sl 2 false (List.map enc l.t))), (.pv (.sl 5 false (List.map enc ks)))]))]))))) else (G ((.int .i64 n)))) : At (T_rcsize N) 0 (endP' rs_rcsize G) ic_rcsize 0 21 [(1, .ptr 0 0), (3, .pv (.int .i64 n)), (4, .pv (.int .i64 i))] [.obj (.box [.pv (enc k), .pv (enc m), .pv (enc l.k), .pv (enc l.t), .pv (enc ks)])] := At.tp (.lit (.ask (.req (.abs (Cert) (fun YY => AV.pv (PV.rptr (PV.cells ((enc) YY)))) (.req (.req (.abs (Int) (fun YY => AV.pv (enc YY)) (.lit (.lit (.nil)))))))) (.nil))) h (by kernel_rfl)
def ic_rfew : IC := (.seq (.reg [⟨(some 2), (.box 2 (.t 0)), 0, none⟩, ⟨(some 4), (.mv (.c (.bool false))), 1, none⟩] none) (.seq (.seq (.reg [⟨(some 5), (.mv (.c (.int .i64 0))), 0, none⟩] none) (.block 0 (.loop [5, 2, 1] (.seq (.seq (.reg [⟨(some 6), (.mv (.t 5)), 0, none⟩, ⟨(some 7), (.faddr 1 (.t 2)), 0, none⟩, ⟨(some 8), (.load false [(.sl 2)] (.t 7)), 0, none⟩, ⟨(some 9), (.len 1 (.t 8)), 0, none⟩, ⟨(some 10), (.bin .num .lss (.t 6) (.t 9)), 0, none⟩] none) (.cond (.t 10) .skip (.exit 0))) (.seq (.block 1 (.seq (.reg [⟨(some 13), (.faddr 1 (.t 2)), 0, none⟩, ⟨(some 14), (.load false [(.sl 2)] (.t 13)), 0, none⟩, ⟨(some 15), (.mv (.t 5)), 0, none⟩, ⟨(some 16), (.iaddr 2 (.t 14) (.t 15)), 0, none⟩, ⟨(some 17), (.faddr 0 (.t 16)), 0, none⟩, ⟨(some 18), (.load false [.str] (.t 17)), 0, none⟩, ⟨(some 19), (.len 0 (.t 18)), 0, none⟩, ⟨(some 20), (.bin .num .gtr (.t 19) (.c (.int .i64 40))), 0, none⟩] none) (.cond (.t 20) (.seq (.reg [⟨(some 4), (.mv (.c (.bool false))), 0, none⟩] none) .ret) .skip))) (.reg [⟨(some 11), (.mv (.t 5)), 0, none⟩, ⟨(some 12), (.bin .num .add (.t 11) (.c (.int .i64 1))), 0, none⟩, ⟨(some 5), (.mv (.t 12)), 0, none⟩] none)))))) (.seq (.reg [⟨(some 21), (.faddr 1 (.t 2)), 0, none⟩, ⟨(some 22), (.load false [(.sl 2)] (.t 21)), 0, none⟩, ⟨(some 23), (.len 1 (.t 22)), 0, none⟩, ⟨(some 24), (.mv (.t 1)), 0, none⟩, ⟨(some 25), (.bin .num .leq (.t 23) (.t 24)), 0, none⟩, ⟨(some 4), (.mv (.t 25)), 0, none⟩] none) .ret)))
def rs_rfew : List IRes := [(.tmp 4)]
abbrev nt_rfew : Nat := 26
def T_rfew : Tab := tab []
theorem rfew_s {G : PV -> Prop} (l : Lin) (n : Int) (h : At T_rfew 0 (endP' rs_rfew G) ic_rfew 0 26 [(1, (.pv (.int .i64 n))), (2, (.ptr 0 0)), (5, (.pv (.int .i64 0)))] [(.obj (.box [(.pv (.int .i64 l.k)), (.pv (.sl 2 false (List.map enc l.t)))]))]) : Gets T_rfew 0 (endP' rs_rfew G) ic_rfew [] (st0 26 [enc l, enc n]) := Gets.tp (.nil) h (by kernel_rfl)
theorem rfew_h0 {G : PV -> Prop} (l : Lin) (n : Int) (i : Int) (h : if (decide (i < (↑(List.length (List.map enc l.t)) : Int))) = true then (decide (0 <= i) && decide (Int.toNat i < List.length (List.map enc l.t)) && Enc.sz Coef == 2) = true ∧ (∃ y0 : Coef, AV.pv (PV.rptr (PV.cells (List.getD (List.map enc l.t) (Int.toNat i) default))) = AV.pv (PV.rptr (PV.cells ((enc) y0))) ∧ (if (decide ((↑(List.length (PV.asStr (List.getD (List.drop 0 (PV.cells (enc y0))) 0 default))) : Int) > 40)) = true then G ((.bool false)) else (At T_rfew 0 (endP' rs_rfew G) ic_rfew 0 26 [(1, (.pv (.int .i64 n))), (2, (.ptr 0 0)), (5, (.pv (.int .i64 (IntKind.wrap IntKind.i64 (i + 1)))))] [(.obj (.box [(.pv (.int .i64 l.k)), (.pv (.sl 2 false (List.map enc l.t)))]))]))) else (G ((.bool (decide ((↑(List.length (List.map enc l.t)) : Int) <= n)))))) : At T_rfew 0 (endP' rs_rfew G) ic_rfew 0 26 [(1, .pv (.int .i64 n)), (2, .ptr 0 0), (5, .pv (.int .i64 i))] [.obj (.box [.pv (.int .i64 l.k), .pv (enc l.t)])] := At.tp (.lit (.ask (.req (.abs (Coef) (fun YY => AV.pv (PV.rptr (PV.cells ((enc) YY)))) (.lit (.lit (.ask (.nil) (.lit (.nil))))))) (.lit (.nil)))) h (by kernel_rfl)
def ic_rfew7 : IC := (.seq (.reg [⟨(some 4), (.mv (.c (.bool false))), 0, none⟩] none) (.seq (.seq (.reg [⟨(some 5), (.mv (.c (.int .i64 0))), 0, none⟩] none) (.block 0 (.loop [5, 0, 1] (.seq (.seq (.reg [⟨(some 6), (.mv (.t 5)), 0, none⟩, ⟨(some 7), (.mv (.t 0)), 0, none⟩, ⟨(some 8), (.len 1 (.t 7)), 0, none⟩, ⟨(some 9), (.bin .num .lss (.t 6) (.t 8)), 0, none⟩] none) (.cond (.t 9) .skip (.exit 0))) (.seq (.block 1 (.seq (.reg [⟨(some 12), (.mv (.t 0)), 0, none⟩, ⟨(some 13), (.mv (.t 5)), 0, none⟩, ⟨(some 14), (.iaddr 3 (.t 12) (.t 13)), 0, none⟩, ⟨(some 15), (.faddr 1 (.t 14)), 0, none⟩, ⟨(some 16), (.load true [(.int .i64), (.sl 2)] (.t 15)), 0, none⟩, ⟨(some 17), (.call (.c (.fn 20)) [(.t 16), (.c (.int .i64 8))]), 0, none⟩, ⟨(some 18), (.un .not (.t 17)), 2, none⟩] none) (.cond (.t 18) (.seq (.reg [⟨(some 4), (.mv (.c (.bool false))), 0, none⟩] none) .ret) .skip))) (.reg [⟨(some 10), (.mv (.t 5)), 0, none⟩, ⟨(some 11), (.bin .num .add (.t 10) (.c (.int .i64 1))), 0, none⟩, ⟨(some 5), (.mv (.t 11)), 0, none⟩] none)))))) (.seq (.reg [⟨(some 19), (.mv (.t 0)), 0, none⟩, ⟨(some 20), (.len 1 (.t 19)), 0, none⟩, ⟨(some 21), (.mv (.t 1)), 0, none⟩, ⟨(some 22), (.bin .num .leq (.t 20) (.t 21)), 0, none⟩, ⟨(some 4), (.mv (.t 22)), 0, none⟩] none) .ret)))
def rs_rfew7 : List IRes := [(.tmp 4)]
abbrev nt_rfew7 : Nat := 23
def T_rfew7 : Tab := tab [(20, .pure (preT (fun x : Lin × Int × Unit => linOk x.1)) (valT (fun x : Lin × Int × Unit => few4 x.1 x.2.1)))]
theorem rfew7_s {G : PV -> Prop} (l : List Fact) (n : Int) (h : At T_rfew7 0 (endP' rs_rfew7 G) ic_rfew7 0 23 [(0, (.pv (.sl 3 false (List.map enc l)))), (1, (.pv (.int .i64 n))), (5, (.pv (.int .i64 0)))] []) : Gets T_rfew7 0 (endP' rs_rfew7 G) ic_rfew7 [] (st0 23 [enc l, enc n]) := Gets.tp (.nil) h (by kernel_rfl)
theorem rfew7_h0 {G : PV -> Prop} (l : List Fact) (n : Int) (i : Int) (h : if (decide (i < (↑(List.length (List.map enc l)) : Int))) = true then (decide (0 <= i) && decide (Int.toNat i < List.length (List.map enc l)) && Enc.sz Fact == 3) = true ∧ (∃ y0 : Fact, AV.pv (PV.rptr (PV.cells (List.getD (List.map enc l) (Int.toNat i) default))) = AV.pv (PV.rptr (PV.cells ((enc) y0))) ∧ ((Go.Pl.preT (fun (x : Lin × Int × Unit) => linOk x.1) [(.agg [(.int .i64 (PV.asInt (List.getD (List.drop 1 (PV.cells (enc y0))) 0 default))), (.sl 2 false (PV.asXs (List.getD (List.drop 1 (PV.cells (enc y0))) (0 + 1) default)))]), (.int .i64 8)]) = true ∧ (∃ y1 : Bool, AV.pv (valT (fun (x : Lin × Int × Unit) => few4 x.1 x.2.1) [(.agg [(.int .i64 (PV.asInt (List.getD (List.drop 1 (PV.cells (enc y0))) 0 default))), (.sl 2 false (PV.asXs (List.getD (List.drop 1 (PV.cells (enc y0))) (0 + 1) default)))]), (.int .i64 8)]) = AV.pv (enc y1) ∧ (if (!y1) = true then G ((.bool false)) else (At T_rfew7 0 (endP' rs_rfew7 G) ic_rfew7 0 23 [(0, (.pv (.sl 3 false (List.map enc l)))), (1, (.pv (.int .i64 n))), (5, (.pv (.int .i64 (IntKind.wrap IntKind.i64 (i + 1)))))] []))))) else (G ((.bool (decide ((↑(List.length (List.map enc l)) : Int) <= n)))))) : At T_rfew7 0 (endP' rs_rfew7 G) ic_rfew7 0 23 [(0, .pv (enc l)), (1, .pv (.int .i64 n)), (5, .pv (.int .i64 i))] [] := At.tp (.lit (.ask (.req (.abs (Fact) (fun YY => AV.pv (PV.rptr (PV.cells ((enc) YY)))) (.lit (.req (.abs (Bool) (fun YY => AV.pv (enc YY)) (.ask (.nil) (.lit (.nil)))))))) (.lit (.nil)))) h (by kernel_rfl)
-- IMPOSSIBLE
def ic_rof : IC := (.seq (.reg [⟨(some 2), (.alloc (.agg [(.int .i64 0), (.sl 0 true [])])), 0, none⟩] none) (.seq (.reg [⟨(some 3), (.mv (.t 0)), 0, none⟩, ⟨(some 4), (.build [(.int .i64 0), (.sl 0 true [])] [(0, (1, (.t 3)))]), 0, none⟩, ⟨none, (.store 2 (.t 2) (.t 4)), 0, none⟩] none) .ret))
def rs_rof : List IRes := [(.cell true 2 2)]
abbrev nt_rof : Nat := 5
def T_rof : Tab := tab []
theorem rof_s {G : PV -> Prop} (n : Int) (h : G ((.agg [(.int .i64 n), (.sl 0 true [])]))) : Gets T_rof 0 (endP' rs_rof G) ic_rof [] (st0 5 [enc n]) := Gets.tp (.nil) h (by kernel_rfl)
def ic_rcmp : IC := (.seq (.reg [⟨(some 2), (.box 2 (.t 0)), 0, none⟩, ⟨(some 3), (.box 2 (.t 1)), 1, none⟩, ⟨(some 4), (.mv (.c (.int .i64 0))), 2, none⟩] none) (.seq (.seq (.reg [⟨(some 5), (.mv (.c (.int .i64 0))), 0, none⟩] none) (.block 0 (.loop [5, 2, 3] (.seq (.seq (.reg [⟨(some 8), (.mv (.t 5)), 0, none⟩, ⟨(some 9), (.faddr 1 (.t 2)), 0, none⟩, ⟨(some 10), (.load false [(.sl 2)] (.t 9)), 0, none⟩, ⟨(some 11), (.len 1 (.t 10)), 0, none⟩, ⟨(some 12), (.bin .num .lss (.t 8) (.t 11)), 0, none⟩, ⟨(some 13), (.mv (.t 12)), 0, none⟩, ⟨(some 14), (.mv (.t 5)), 0, (some (13, true))⟩, ⟨(some 15), (.faddr 1 (.t 3)), 0, (some (13, true))⟩, ⟨(some 16), (.load false [(.sl 2)] (.t 15)), 0, (some (13, true))⟩, ⟨(some 17), (.len 1 (.t 16)), 0, (some (13, true))⟩, ⟨(some 18), (.bin .num .lss (.t 14) (.t 17)), 0, (some (13, true))⟩, ⟨(some 19), (.pick (.t 13) (.t 18) (.c (.bool false))), 0, none⟩] none) (.cond (.t 19) .skip (.exit 0))) (.seq (.block 1 (.seq (.reg [⟨(some 22), (.faddr 1 (.t 2)), 0, none⟩, ⟨(some 23), (.load false [(.sl 2)] (.t 22)), 0, none⟩, ⟨(some 24), (.mv (.t 5)), 0, none⟩, ⟨(some 25), (.iaddr 2 (.t 23) (.t 24)), 0, none⟩, ⟨(some 26), (.load true [.str, (.int .i64)] (.t 25)), 0, none⟩, ⟨(some 27), (.faddr 1 (.t 3)), 0, none⟩, ⟨(some 28), (.load false [(.sl 2)] (.t 27)), 0, none⟩, ⟨(some 29), (.mv (.t 5)), 0, none⟩, ⟨(some 30), (.iaddr 2 (.t 28) (.t 29)), 0, none⟩, ⟨(some 31), (.load true [.str, (.int .i64)] (.t 30)), 0, none⟩, ⟨(some 6), (.alloc (.agg [(.str []), (.int .i64 0)])), 0, none⟩, ⟨(some 7), (.alloc (.agg [(.str []), (.int .i64 0)])), 1, none⟩, ⟨none, (.store 2 (.t 6) (.t 26)), 2, none⟩, ⟨none, (.store 2 (.t 7) (.t 31)), 2, none⟩] (some [[], [0], [], [1, 2, 0], [3, 1, 2, 0], [], [5], [], [6, 7, 5], [8, 6, 7, 5], [], [], [10, 4, 0, 1, 2, 3, 11], [11, 9, 12, 0, 1, 2, 3, 4, 5, 6, 7, 8, 10]])) (.block 2 (.seq (.reg [⟨(some 33), (.faddr 0 (.t 6)), 0, none⟩, ⟨(some 34), (.load false [.str] (.t 33)), 0, none⟩, ⟨(some 35), (.faddr 0 (.t 7)), 0, none⟩, ⟨(some 36), (.load false [.str] (.t 35)), 0, none⟩, ⟨(some 37), (.bin .num .lss (.t 34) (.t 36)), 0, none⟩, ⟨(some 38), (.mv (.t 37)), 0, none⟩, ⟨(some 39), (.faddr 0 (.t 6)), 0, (some (38, false))⟩, ⟨(some 40), (.load false [.str] (.t 39)), 0, (some (38, false))⟩, ⟨(some 41), (.faddr 0 (.t 7)), 0, (some (38, false))⟩, ⟨(some 42), (.load false [.str] (.t 41)), 0, (some (38, false))⟩, ⟨(some 43), (.bin .num .eql (.t 40) (.t 42)), 0, (some (38, false))⟩, ⟨(some 44), (.mv (.t 43)), 0, (some (38, false))⟩, ⟨(some 45), (.faddr 1 (.t 6)), 0, (some (44, true))⟩, ⟨(some 46), (.load false [(.int .i64)] (.t 45)), 0, (some (44, true))⟩, ⟨(some 47), (.faddr 1 (.t 7)), 0, (some (44, true))⟩, ⟨(some 48), (.load false [(.int .i64)] (.t 47)), 0, (some (44, true))⟩, ⟨(some 49), (.bin .num .lss (.t 46) (.t 48)), 0, (some (44, true))⟩, ⟨(some 50), (.pick (.t 44) (.t 49) (.c (.bool false))), 0, (some (38, false))⟩, ⟨(some 51), (.pick (.t 38) (.c (.bool true)) (.t 50)), 0, none⟩, ⟨(some 32), (.mv (.t 51)), 0, none⟩] none) (.cond (.t 32) (.seq (.reg [⟨(some 4), (.mv (.c (.int .i64 (-1)))), 0, none⟩] none) .ret) (.seq (.reg [⟨(some 53), (.load true [.str, (.int .i64)] (.t 6)), 0, none⟩, ⟨(some 54), (.load true [.str, (.int .i64)] (.t 7)), 0, none⟩, ⟨(some 55), (.bin (.agg [1, 0]) .neq (.t 53) (.t 54)), 0, none⟩, ⟨(some 52), (.mv (.t 55)), 0, none⟩] none) (.cond (.t 52) (.seq (.reg [⟨(some 4), (.mv (.c (.int .i64 1))), 0, none⟩] none) .ret) .skip))))))) (.reg [⟨(some 20), (.mv (.t 5)), 0, none⟩, ⟨(some 21), (.bin .num .add (.t 20) (.c (.int .i64 1))), 0, none⟩, ⟨(some 5), (.mv (.t 21)), 0, none⟩] none)))))) (.seq (.block 3 (.seq (.reg [⟨(some 57), (.faddr 1 (.t 2)), 0, none⟩, ⟨(some 58), (.load false [(.sl 2)] (.t 57)), 0, none⟩, ⟨(some 59), (.len 1 (.t 58)), 0, none⟩, ⟨(some 60), (.faddr 1 (.t 3)), 0, none⟩, ⟨(some 61), (.load false [(.sl 2)] (.t 60)), 0, none⟩, ⟨(some 62), (.len 1 (.t 61)), 0, none⟩, ⟨(some 63), (.bin .num .lss (.t 59) (.t 62)), 0, none⟩, ⟨(some 64), (.mv (.t 63)), 0, none⟩, ⟨(some 65), (.faddr 1 (.t 2)), 0, (some (64, false))⟩, ⟨(some 66), (.load false [(.sl 2)] (.t 65)), 0, (some (64, false))⟩, ⟨(some 67), (.len 1 (.t 66)), 0, (some (64, false))⟩, ⟨(some 68), (.faddr 1 (.t 3)), 0, (some (64, false))⟩, ⟨(some 69), (.load false [(.sl 2)] (.t 68)), 0, (some (64, false))⟩, ⟨(some 70), (.len 1 (.t 69)), 0, (some (64, false))⟩, ⟨(some 71), (.bin .num .eql (.t 67) (.t 70)), 0, (some (64, false))⟩, ⟨(some 72), (.mv (.t 71)), 0, (some (64, false))⟩, ⟨(some 73), (.faddr 0 (.t 2)), 0, (some (72, true))⟩, ⟨(some 74), (.load false [(.int .i64)] (.t 73)), 0, (some (72, true))⟩, ⟨(some 75), (.faddr 0 (.t 3)), 0, (some (72, true))⟩, ⟨(some 76), (.load false [(.int .i64)] (.t 75)), 0, (some (72, true))⟩, ⟨(some 77), (.bin .num .lss (.t 74) (.t 76)), 0, (some (72, true))⟩, ⟨(some 78), (.pick (.t 72) (.t 77) (.c (.bool false))), 0, (some (64, false))⟩, ⟨(some 79), (.pick (.t 64) (.c (.bool true)) (.t 78)), 0, none⟩, ⟨(some 56), (.mv (.t 79)), 0, none⟩] none) (.cond (.t 56) (.seq (.reg [⟨(some 4), (.mv (.c (.int .i64 (-1)))), 0, none⟩] none) .ret) (.seq (.reg [⟨(some 81), (.faddr 1 (.t 2)), 0, none⟩, ⟨(some 82), (.load false [(.sl 2)] (.t 81)), 0, none⟩, ⟨(some 83), (.len 1 (.t 82)), 0, none⟩, ⟨(some 84), (.faddr 1 (.t 3)), 0, none⟩, ⟨(some 85), (.load false [(.sl 2)] (.t 84)), 0, none⟩, ⟨(some 86), (.len 1 (.t 85)), 0, none⟩, ⟨(some 87), (.bin .num .gtr (.t 83) (.t 86)), 0, none⟩, ⟨(some 88), (.mv (.t 87)), 0, none⟩, ⟨(some 89), (.faddr 0 (.t 2)), 0, (some (88, false))⟩, ⟨(some 90), (.load false [(.int .i64)] (.t 89)), 0, (some (88, false))⟩, ⟨(some 91), (.faddr 0 (.t 3)), 0, (some (88, false))⟩, ⟨(some 92), (.load false [(.int .i64)] (.t 91)), 0, (some (88, false))⟩, ⟨(some 93), (.bin .num .gtr (.t 90) (.t 92)), 0, (some (88, false))⟩, ⟨(some 94), (.pick (.t 88) (.c (.bool true)) (.t 93)), 0, none⟩, ⟨(some 80), (.mv (.t 94)), 0, none⟩] none) (.cond (.t 80) (.seq (.reg [⟨(some 4), (.mv (.c (.int .i64 1))), 0, none⟩] none) .ret) .skip))))) (.seq (.reg [⟨(some 4), (.mv (.c (.int .i64 0))), 0, none⟩] none) .ret))))
def rs_rcmp : List IRes := [(.tmp 4)]
abbrev nt_rcmp : Nat := 95
def T_rcmp : Tab := tab []
theorem rcmp_s {G : PV -> Prop} (a b : Lin) (h : At T_rcmp 0 (endP' rs_rcmp G) ic_rcmp 0 95 [(2, (.ptr 0 0)), (3, (.ptr 1 0)), (5, (.pv (.int .i64 0)))] [(.obj (.box [(.pv (.int .i64 a.k)), (.pv (.sl 2 false (List.map enc a.t)))])), (.obj (.box [(.pv (.int .i64 b.k)), (.pv (.sl 2 false (List.map enc b.t)))]))]) : Gets T_rcmp 0 (endP' rs_rcmp G) ic_rcmp [] (st0 95 [enc a, enc b]) := Gets.tp (.nil) h (by kernel_rfl)
theorem rcmp_h0 {G : PV -> Prop} (a b : Lin) (i : Int) (h : if (decide (i < (↑(List.length (List.map enc a.t)) : Int))) = true then if (decide (i < (↑(List.length (List.map enc b.t)) : Int))) = true then (decide (0 <= i) && decide (Int.toNat i < List.length (List.map enc a.t)) && Enc.sz Coef == 2) = true ∧ (∃ y0 : Coef, AV.pv (PV.rptr (PV.cells (List.getD (List.map enc a.t) (Int.toNat i) default))) = AV.pv (PV.rptr (PV.cells ((enc) y0))) ∧ ((decide (0 <= i) && decide (Int.toNat i < List.length (List.map enc b.t)) && Enc.sz Coef == 2) = true ∧ (∃ y1 : Coef, AV.pv (PV.rptr (PV.cells (List.getD (List.map enc b.t) (Int.toNat i) default))) = AV.pv (PV.rptr (PV.cells ((enc) y1))) ∧ (if (Op.bytesLess (PV.asStr (List.getD (PV.cells (enc y0)) 0 default)) (PV.asStr (List.getD (PV.cells (enc y1)) 0 default))) = true then G ((.int .i64 (-1))) else (if (PV.asStr (List.getD (PV.cells (enc y0)) 0 default) == PV.asStr (List.getD (PV.cells (enc y1)) 0 default)) = true then if (decide (PV.asInt (List.getD (PV.cells (enc y0)) (0 + 1) default) < PV.asInt (List.getD (PV.cells (enc y1)) (0 + 1) default))) = true then G ((.int .i64 (-1))) else (if (!(PV.asStr (List.getD (PV.cells (enc y0)) 0 default) == PV.asStr (List.getD (PV.cells (enc y1)) 0 default) && (PV.asInt (List.getD (PV.cells (enc y0)) (0 + 1) default) == PV.asInt (List.getD (PV.cells (enc y1)) (0 + 1) default) && true))) = true then G ((.int .i64 1)) else (At T_rcmp 0 (endP' rs_rcmp G) ic_rcmp 0 95 [(2, (.ptr 0 0)), (3, (.ptr 1 0)), (5, (.pv (.int .i64 (IntKind.wrap IntKind.i64 (i + 1)))))] [(.obj (.box [(.pv (.int .i64 a.k)), (.pv (.sl 2 false (List.map enc a.t)))])), (.obj (.box [(.pv (.int .i64 b.k)), (.pv (.sl 2 false (List.map enc b.t)))]))])) else (if (!(PV.asStr (List.getD (PV.cells (enc y0)) 0 default) == PV.asStr (List.getD (PV.cells (enc y1)) 0 default) && (PV.asInt (List.getD (PV.cells (enc y0)) (0 + 1) default) == PV.asInt (List.getD (PV.cells (enc y1)) (0 + 1) default) && true))) = true then G ((.int .i64 1)) else (At T_rcmp 0 (endP' rs_rcmp G) ic_rcmp 0 95 [(2, (.ptr 0 0)), (3, (.ptr 1 0)), (5, (.pv (.int .i64 (IntKind.wrap IntKind.i64 (i + 1)))))] [(.obj (.box [(.pv (.int .i64 a.k)), (.pv (.sl 2 false (List.map enc a.t)))])), (.obj (.box [(.pv (.int .i64 b.k)), (.pv (.sl 2 false (List.map enc b.t)))]))]))))))) else (if (decide ((↑(List.length (List.map enc a.t)) : Int) < (↑(List.length (List.map enc b.t)) : Int))) = true then G ((.int .i64 (-1))) else (if ((↑(List.length (List.map enc a.t)) : Int) == (↑(List.length (List.map enc b.t)) : Int)) = true then if (decide (a.k < b.k)) = true then G ((.int .i64 (-1))) else (if (decide ((↑(List.length (List.map enc a.t)) : Int) > (↑(List.length (List.map enc b.t)) : Int))) = true then G ((.int .i64 1)) else (if (decide (a.k > b.k)) = true then G ((.int .i64 1)) else (G ((.int .i64 0))))) else (if (decide ((↑(List.length (List.map enc a.t)) : Int) > (↑(List.length (List.map enc b.t)) : Int))) = true then G ((.int .i64 1)) else (if (decide (a.k > b.k)) = true then G ((.int .i64 1)) else (G ((.int .i64 0))))))) else (if (decide ((↑(List.length (List.map enc a.t)) : Int) < (↑(List.length (List.map enc b.t)) : Int))) = true then G ((.int .i64 (-1))) else (if ((↑(List.length (List.map enc a.t)) : Int) == (↑(List.length (List.map enc b.t)) : Int)) = true then if (decide (a.k < b.k)) = true then G ((.int .i64 (-1))) else (if (decide ((↑(List.length (List.map enc a.t)) : Int) > (↑(List.length (List.map enc b.t)) : Int))) = true then G ((.int .i64 1)) else (if (decide (a.k > b.k)) = true then G ((.int .i64 1)) else (G ((.int .i64 0))))) else (if (decide ((↑(List.length (List.map enc a.t)) : Int) > (↑(List.length (List.map enc b.t)) : Int))) = true then G ((.int .i64 1)) else (if (decide (a.k > b.k)) = true then G ((.int .i64 1)) else (G ((.int .i64 0)))))))) : At T_rcmp 0 (endP' rs_rcmp G) ic_rcmp 0 95 [(2, .ptr 0 0), (3, .ptr 1 0), (5, .pv (.int .i64 i))] [.obj (.box [.pv (.int .i64 a.k), .pv (enc a.t)]), .obj (.box [.pv (.int .i64 b.k), .pv (enc b.t)])] := At.tp (.lit (.ask (.lit (.lit (.lit (.lit (.lit (.lit (.ask (.req (.abs (Coef) (fun YY => AV.pv (PV.rptr (PV.cells ((enc) YY)))) (.lit (.req (.abs (Coef) (fun YY => AV.pv (PV.rptr (PV.cells ((enc) YY)))) (.lit (.lit (.ask (.lit (.lit (.lit (.lit (.lit (.lit (.lit (.lit (.nil))))))))) (.lit (.lit (.lit (.lit (.lit (.lit (.ask (.lit (.lit (.lit (.lit (.lit (.lit (.lit (.lit (.ask (.nil) (.lit (.ask (.nil) (.lit (.nil))))))))))))) (.lit (.lit (.lit (.lit (.lit (.lit (.lit (.lit (.lit (.ask (.nil) (.lit (.nil))))))))))))))))))))))))))) (.lit (.ask (.lit (.lit (.lit (.lit (.lit (.lit (.lit (.lit (.lit (.lit (.nil))))))))))) (.lit (.lit (.lit (.lit (.lit (.lit (.lit (.lit (.ask (.lit (.lit (.lit (.lit (.lit (.lit (.lit (.lit (.ask (.nil) (.lit (.ask (.lit (.lit (.lit (.lit (.lit (.lit (.nil))))))) (.lit (.lit (.lit (.lit (.lit (.lit (.ask (.nil) (.nil))))))))))))))))))) (.lit (.lit (.lit (.lit (.lit (.lit (.lit (.lit (.lit (.ask (.lit (.lit (.lit (.lit (.lit (.lit (.nil))))))) (.lit (.lit (.lit (.lit (.lit (.lit (.ask (.nil) (.nil)))))))))))))))))))))))))))))))))))) (.lit (.lit (.lit (.lit (.lit (.lit (.lit (.ask (.lit (.lit (.lit (.lit (.lit (.lit (.lit (.lit (.lit (.lit (.nil))))))))))) (.lit (.lit (.lit (.lit (.lit (.lit (.lit (.lit (.ask (.lit (.lit (.lit (.lit (.lit (.lit (.lit (.lit (.ask (.nil) (.lit (.ask (.lit (.lit (.lit (.lit (.lit (.lit (.nil))))))) (.lit (.lit (.lit (.lit (.lit (.lit (.ask (.nil) (.nil))))))))))))))))))) (.lit (.lit (.lit (.lit (.lit (.lit (.lit (.lit (.lit (.ask (.lit (.lit (.lit (.lit (.lit (.lit (.nil))))))) (.lit (.lit (.lit (.lit (.lit (.lit (.ask (.nil) (.nil))))))))))))))))))))))))))))))))))))) h (by kernel_rfl)
def ic_req : IC := (.seq (.reg [⟨(some 2), (.box 2 (.t 0)), 0, none⟩, ⟨(some 3), (.box 2 (.t 1)), 1, none⟩, ⟨(some 4), (.mv (.c (.bool false))), 2, none⟩] none) (.seq (.reg [⟨(some 5), (.load true [(.int .i64), (.sl 2)] (.t 2)), 0, none⟩, ⟨(some 6), (.load true [(.int .i64), (.sl 2)] (.t 3)), 0, none⟩, ⟨(some 7), (.call (.c (.fn 40)) [(.t 5), (.t 6)]), 0, none⟩, ⟨(some 8), (.bin .num .eql (.t 7) (.c (.int .i64 0))), 2, none⟩, ⟨(some 4), (.mv (.t 8)), 2, none⟩] none) .ret))
def rs_req : List IRes := [(.tmp 4)]
abbrev nt_req : Nat := 9
def T_req : Tab := tab [(40, .pure (preT (fun x : Lin × Lin × Unit => linOk x.1)) (valT (fun x : Lin × Lin × Unit => cmpL x.1 x.2.1)))]
theorem req_s {G : PV -> Prop} (a b : Lin) (h : (Go.Pl.preT (fun (x : Lin × Lin × Unit) => linOk x.1) [(.agg [(.int .i64 a.k), (.sl 2 false (List.map enc a.t))]), (.agg [(.int .i64 b.k), (.sl 2 false (List.map enc b.t))])]) = true ∧ (∃ y0 : Int, AV.pv (valT (fun (x : Lin × Lin × Unit) => cmpL x.1 x.2.1) [(.agg [(.int .i64 a.k), (.sl 2 false (List.map enc a.t))]), (.agg [(.int .i64 b.k), (.sl 2 false (List.map enc b.t))])]) = AV.pv (enc y0) ∧ (G ((.bool (y0 == 0)))))) : Gets T_req 0 (endP' rs_req G) ic_req [] (st0 9 [enc a, enc b]) := Gets.tp (.req (.abs (Int) (fun YY => AV.pv (enc YY)) (.lit (.nil)))) h (by kernel_rfl)
end Go.Pl

namespace Go.Pl
open Go.RowKit
open Enc (enc dec is)
open EncL (encL decL isL)
theorem dig_eq (c : UInt8) : digB c = (decide ((c.toNat : Int) ≥ 48) && decide ((c.toNat : Int) <= 57)) := by
 simp only [digB, UInt8.le_iff_toNat_le, ge_iff_le]
 have e1 : (48 : UInt8).toNat = 48 := rfl
 have e2 : (57 : UInt8).toNat = 57 := rfl
 rw [e1, e2]
 congr 1 <;> exact decide_eq_decide.2 (by omega)
theorem low_eq (c : UInt8) : lowB c = (decide ((c.toNat : Int) ≥ 97) && decide ((c.toNat : Int) <= 122)) := by
 simp only [lowB, UInt8.le_iff_toNat_le, ge_iff_le]
 have e1 : (97 : UInt8).toNat = 97 := rfl
 have e2 : (122 : UInt8).toNat = 122 := rfl
 rw [e1, e2]
 congr 1 <;> exact decide_eq_decide.2 (by omega)
theorem and_if {a b : Bool} {G : PV -> Prop} (h : G (.bool (a && b))) : if a = true then G (.bool b) else G (.bool false) := by cases a <;> simpa using h
theorem rdig_run : ∀ a : UInt8 × Unit, true = true -> Gets T_rdig 0 (endP' rs_rdig (Fits (digB a.1))) ic_rdig [] (st0 nt_rdig (encL a)) := by
 rintro ⟨c, ⟨⟩⟩ -
 exact rdig_s c (and_if (fitB (dig_eq c).symm))
theorem rlet_run : ∀ a : UInt8 × Unit, true = true -> Gets T_rlet 0 (endP' rs_rlet (Fits (lowB a.1))) ic_rlet [] (st0 nt_rlet (encL a)) := by
 rintro ⟨c, ⟨⟩⟩ -
 exact rlet_s c (and_if (fitB (low_eq c).symm))
theorem rsmall_run : ∀ a : Int × Unit, true = true -> Gets T_rsmall 0 (endP' rs_rsmall (Fits (coefIn a.1))) ic_rsmall [] (st0 nt_rsmall (encL a)) := by
 rintro ⟨n, ⟨⟩⟩ -
 exact rsmall_s n (and_if (fitB rfl))
theorem lin_run : ∀ a : Int × Unit, true = true -> Gets T_lin 0 (endP' rs_lin (Fits (coefIn a.1))) ic_lin [] (st0 nt_lin (encL a)) := by
 rintro ⟨n, ⟨⟩⟩ -
 exact lin_s n (and_if (fitB rfl))
theorem rname_l0 (s : List UInt8) (hs : s.length <= 30) : ∀ (j i : Nat), j + i = s.length -> At T_rname 0 (endP' rs_rname (Fits ((s.drop i).all digB))) ic_rname 0 62 [(0, .pv (.str s)), (3, .pv (.int .i64 i))] [] := by
 intro j
 induction j with
 | zero =>
  intro i hi
  refine rname_h0 s i ?_
  rw [if_neg (lt_no' (by omega))]
  exact fitB (by rw [List.drop_of_length_le (by omega)]; rfl)
 | succ j ih =>
  intro i hi
  have hlt : i < s.length := by omega
  refine rname_h0 s i ?_
  rw [if_pos (lt_ok' hlt)]
  have eg : List.getD s (Int.toNat (i : Int)) 0 = s[i] := by simp [List.getD, hlt]
  rw [eg, next (by omega)]
  refine ⟨by simp [hlt], pre_enc (s[i], ()) rfl rfl, ex_enc (s[i], ()) rfl ?_⟩
  rw [List.drop_eq_getElem_cons hlt, List.all_cons]
  show if (!digB s[i]) = true then _ else _
  cases hd : digB s[i]
  ·exact fitB rfl
  ·rw [if_neg (by simp)]
   simpa using ih (i + 1) (by omega)
theorem rname_l1 (s : List UInt8) (hs : s.length <= 30) : ∀ (j i : Nat), j + i = s.length -> 0 < i -> At T_rname 0 (endP' rs_rname (Fits ((s.drop i).all fun c => lowB c || digB c))) ic_rname 1 62 [(0, .pv (.str s)), (4, .pv (.int .i64 i))] [] := by
 intro j
 induction j with
 | zero =>
  intro i hi _
  refine rname_h1 s i ?_
  rw [if_neg (lt_no' (by omega))]
  exact fitB (by rw [List.drop_of_length_le (by omega)]; rfl)
 | succ j ih =>
  intro i hi h0
  have hlt : i < s.length := by omega
  refine rname_h1 s i ?_
  rw [if_pos (lt_ok' hlt)]
  have eg : List.getD s (Int.toNat (i : Int)) 0 = s[i] := by simp [List.getD, hlt]
  rw [eg, next (by omega)]
  refine ⟨by simp [hlt], pre_enc (s[i], ()) rfl rfl, ex_enc (s[i], ()) rfl ?_⟩
  rw [List.drop_eq_getElem_cons hlt, List.all_cons]
  show if (!lowB s[i]) = true then _ else _
  cases hd : lowB s[i]
  ·rw [if_nf, if_neg (by simp; omega)]
   refine ⟨by simp [hlt], pre_enc (s[i], ()) rfl rfl, ex_enc (s[i], ()) rfl ?_⟩
   show if (!digB s[i]) = true then _ else _
   cases hd : digB s[i]
   ·exact fitB rfl
   ·rw [if_neg (by simp)]
    simpa using ih (i + 1) (by omega) (by omega)
  ·rw [if_neg (by simp)]
   simpa using ih (i + 1) (by omega) (by omega)
theorem rname_run : ∀ a : Str × Unit, true = true -> Gets T_rname 0 (endP' rs_rname (Fits (nameB a.1))) ic_rname [] (st0 nt_rname (encL a)) := by
 rintro ⟨⟨s⟩, ⟨⟩⟩ -
 refine rname_s s ?_
 cases s with
 | nil => exact fitB rfl
 | cons c r =>
  rw [if_neg (by simp; omega)]
  by_cases h30 : ((c :: r).length : Int) > 30
  ·rw [if_pos (by simpa using h30)]
   refine fitB ?_
   have : ¬ r.length <= 29 := by simp at h30; omega
   have h9 : ¬ r.length <= 9 := by omega
   simp [nameB, this, h9]
  ·rw [if_neg (by simpa using h30)]
   have hl : (c :: r).length <= 30 := by omega
   refine ⟨by simp, ?_⟩
   show if ((c.toNat : Int) == 95) = true then _ else _
   by_cases hc : c = 95
   ·subst hc
    rw [if_pos (by rfl)]
    simp only [nameB, if_true]
    cases r with
    | nil => exact fitB rfl
    | cons d r =>
     rw [if_neg (by simp; omega)]
     by_cases h10 : ((95 :: d :: r : List UInt8).length : Int) > 10
     ·rw [if_pos (by simpa using h10)]
      refine fitB ?_
      have : decide ((d :: r).length <= 9) = false := decide_eq_false (by simp at h10 ⊢; omega)
      rw [this, Bool.and_false]
     ·rw [if_neg (by simpa using h10)]
      refine ⟨by simp, ?_⟩
      show if ((d.toNat : Int) == 48) = true then _ else _
      by_cases hd : d = 48
      ·subst hd
       rw [if_pos (by rfl)]
       exact fitB (by simp)
      ·rw [if_neg (by exact u8_no 48 hd (by omega))]
       have h := rname_l0 (95 :: d :: r) hl (d :: r).length 1 (by simp)
       have e : (d :: r).length <= 9 := by simp at h10 ⊢; omega
       have e2 : ((d :: r).all digB && !(d :: r).isEmpty && decide ((d :: r).head? ≠ some 48) && decide ((d :: r).length <= 9)) = (d :: r).all digB := by rw [decide_eq_true e, show decide ((d :: r).head? ≠ some (48 : UInt8)) = true by simpa using hd]; simp
       rw [e2]
       exact h
   ·rw [if_neg (by exact u8_no 95 hc (by omega))]
    refine rname_h1 (c :: r) 0 ?_
    rw [if_pos (by simp)]
    refine ⟨by simp, pre_enc (c, ()) rfl rfl, ex_enc (c, ()) rfl ?_⟩
    show if (!lowB c) = true then _ else _
    have en : nameB ⟨c :: r⟩ = (lowB c && r.all (fun c => lowB c || digB c)) := by
     have : r.length <= 29 := by simp at hl; omega
     simp [nameB, hc, this]
    rw [en]
    cases hlow : lowB c
    ·rw [if_nf, if_pos (by rfl)]
     exact fitB rfl
    ·rw [if_neg (by simp)]
     exact rname_l1 (c :: r) hl r.length 1 (by simp) (by omega)
end Go.Pl

namespace Go.Pl
open Go.RowKit
open Enc (enc dec is)
open EncL (encL decL isL)
def chkT (prev : Option (List UInt8)) : List Coef -> Bool
 | [] => true
 | t :: r => nameB t.v && decide (t.c ≠ 0) && coefIn t.c && (match prev with | none => true | some p => decide (p < t.v.s)) && chkT (some t.v.s) r
theorem chk_cons (p : Option (List UInt8)) (t : Coef) (r : List Coef) : chkT p (t :: r) = (nameB t.v && decide (t.c ≠ 0) && coefIn t.c && (match p with | none => true | some p => decide (p < t.v.s)) && chkT (some t.v.s) r) := by cases p <;> rfl
theorem chk_some : ∀ (l : List Coef) (p : List UInt8), chkT (some p) l = (l.all (fun t => nameB t.v && decide (t.c ≠ 0) && coefIn t.c) && (match l with | [] => true | t :: _ => decide (p < t.v.s)) && ascB l)
 | [], p => by simp [chkT, ascB]
 | t :: r, p => by
  rw [chk_cons, chk_some r]
  cases r with
  | nil => simp [ascB]
  | cons u r =>
   simp only [List.all_cons, ascB]
   ac_rfl
theorem chk_none (l : List Coef) : chkT none l = (l.all (fun t => nameB t.v && decide (t.c ≠ 0) && coefIn t.c) && ascB l) := by
 cases l with
 | nil => simp [chkT, ascB]
 | cons t r =>
  rw [chk_cons, chk_some r]
  cases r with
  | nil => simp [ascB]
  | cons u r =>
   simp only [List.all_cons, ascB, Bool.and_true]
   ac_rfl
theorem valid_eq (l : Lin) : validL l = (coefIn l.k && decide (l.t.length <= 12) && chkT none l.t) := by
 rw [chk_none, validL]
 ac_rfl
def pvS (ts : List Coef) : Nat -> Option (List UInt8)
 | 0 => none
 | i + 1 => (ts[i]?).map (·.v.s)
theorem pred_ok {k : Nat} (h : k < 9223372036854775807) : IntKind.i64.wrap (((k + 1 : Nat) : Int) - 1) = (k : Int) := by rw [wrap64 (by omega) (by omega)]; omega
theorem rvalid_loop (l : Lin) (hl : l.t.length <= 9223372036854775807) : ∀ (j i : Nat), j + i = l.t.length -> At T_rvalid 0 (endP' rs_rvalid (Fits (chkT (pvS l.t i) (l.t.drop i)))) ic_rvalid 0 58 [(1, .ptr 0 0), (3, .pv (.int .i64 i))] [.obj (.box [.pv (.int .i64 l.k), .pv (enc l.t)])] := by
 intro j
 induction j with
 | zero =>
  intro i hi
  refine rvalid_h0 l i ?_
  rw [if_neg (lt_no (by omega))]
  exact fitB (by rw [List.drop_of_length_le (by omega)]; rfl)
 | succ j ih =>
  intro i hi
  have hlt : i < l.t.length := by omega
  have h := ih (i + 1) (by omega)
  refine rvalid_h0 l i ?_
  simp only [co1, co2, co3, co4]
  refine iteT (lt_ok hlt) ⟨idx_ok hlt rfl, el_ex hlt (ex_enc (l.t[i].v, ()) rfl (iteN (fun hn => ?_) fun hn => iteE (fun hc => ?_) fun hc => ex_enc (l.t[i].c, ()) rfl (iteN (fun hk => ?_) fun hk => ?_)))⟩
  all_goals rw [List.drop_eq_getElem_cons hlt, chk_cons]
  ·have hn : nameB l.t[i].v = false := hn
   exact fitB (by simp [hn])
  ·exact fitB (by simp [hc])
  ·have hk : coefIn l.t[i].c = false := hk
   exact fitB (by simp [hk])
  have hn : nameB l.t[i].v = true := hn
  have hk : coefIn l.t[i].c = true := hk
  rw [next (by omega), hn, hk, decide_eq_true hc]
  have ep : pvS l.t (i + 1) = some l.t[i].v.s := by simp [pvS, hlt]
  rw [ep] at h
  cases i with
  | zero => exact iteF (by simp) h
  | succ i =>
   refine iteT (by simp) ?_
   rw [pred_ok (by omega)]
   refine ⟨idx_ok (by omega) rfl, el_ex (by omega) ?_⟩
   have e2 : pvS l.t (i + 1) = some l.t[i].v.s := by simp [pvS, show i < l.t.length by omega]
   rw [e2]
   refine iteN (fun hb => ?_) fun hb => ?_
   all_goals
    have hb' := (bytesLess_eq l.t[i].v.s l.t[i + 1].v.s).symm.trans hb
    simp only [hb', Bool.and_true, Bool.true_and, Bool.and_false, Bool.false_and]
   ·exact fitB rfl
   ·exact h
theorem rvalid_run : ∀ a : Lin × Unit, linOk a.1 = true -> Gets T_rvalid 0 (endP' rs_rvalid (Fits (validL a.1))) ic_rvalid [] (st0 nt_rvalid (encL a)) := by
 rintro ⟨l, ⟨⟩⟩ hl
 have hl : l.t.length <= 9223372036854775807 := by simpa [linOk] using hl
 refine rvalid_s l (ex_enc (l.k, ()) rfl ?_)
 show if (!coefIn l.k) = true then _ else _
 show if (!coefIn l.k) = true then Fits (validL l) _ else if _ then Fits (validL l) _ else At T_rvalid 0 (endP' rs_rvalid (Fits (validL l))) ic_rvalid 0 58 _ _
 rw [valid_eq]
 cases hk : coefIn l.k
 ·exact fitB rfl
 rw [if_nt]
 by_cases h12 : l.t.length <= 12
 ·rw [if_neg (by simp; omega)]
  have h := rvalid_loop l hl l.t.length 0 (by omega)
  simp only [h12, decide_true, Bool.true_and]
  exact h
 ·rw [if_pos (by simp; omega)]
  exact fitB (by simp [h12])
theorem cok_mk {k : Int} {m : List Int} {l : Lin} {ks : List Cert} (h : cOk (.mk k m l ks) = true) : m.length <= 9223372036854775807 ∧ l.t.length <= 9223372036854775807 ∧ ks.length <= 9223372036854775807 ∧ cOks ks = true := by
 simp only [cOk, linOk, Bool.and_eq_true, decide_eq_true_eq] at h
 exact ⟨h.1.1.1, h.1.1.2, h.1.2, h.2⟩
theorem enc_cert1 (k : Int) (m : List Int) (l : Lin) (ks : List Cert) : ([PV.agg [enc k, enc m, enc l.k, enc l.t, enc ks]] : List PV) = [enc (Cert.mk k m l ks)] := by rw [enc_cert]
theorem csize_loop (N : Nat) (k : Int) (m : List Int) (l : Lin) (ks : List Cert) (hN : depCs ks < N) (hlen : ks.length <= 9223372036854775807) (hok : cOks ks = true) : ∀ (j i : Nat) (n : Int), j + i = ks.length -> At (T_csize N) 0 (endP' rs_csize (Fits (sizeCs n (ks.drop i)))) ic_csize 0 19 [(3, .pv (.int .i64 n)), (7, .pv (enc ks)), (8, .pv (.int .i64 ks.length)), (9, .pv (.int .i64 i))] [] := by
 intro j
 induction j with
 | zero =>
  intro i n hi
  exact csize_h0 N k m l ks n i (iteF (lt_no' (by omega)) (fitI (by rw [List.drop_of_length_le (by omega), sizeCs])))
 | succ j ih =>
  intro i n hi
  have hlt : i < ks.length := by omega
  have h := ih (i + 1) (w64 (n + sizeC ks[i])) (by omega)
  have hd := depCs_le (List.getElem_mem hlt)
  have ho := cOks_mem hok (List.getElem_mem hlt)
  refine csize_h0 N k m l ks n i (iteT (lt_ok' hlt) ⟨idx_ok hlt rfl, el_ex hlt ?_⟩)
  rw [List.drop_eq_getElem_cons hlt, sizeCs, next (by omega)]
  generalize ks[i] = c at h hd ho ⊢
  obtain ⟨k', m', l', ks'⟩ := c
  rw [enc_cert]
  exact ⟨rfl, pre_enc (.mk k' m' l' ks', ()) (enc_cert1 k' m' l' ks') (by show (cOk _ && decide _) = true; rw [ho, decide_eq_true (show depC (Cert.mk k' m' l' ks') < N by omega)]; rfl), ex_enc (.mk k' m' l' ks', ()) (enc_cert1 k' m' l' ks') h⟩
theorem csize_run (N : Nat) : ∀ a : Cert × Unit, (cOk a.1 && decide (depC a.1 < N + 1)) = true -> Gets (T_csize N) 0 (endP' rs_csize (Fits (sizeC a.1))) ic_csize [] (st0 nt_csize (encL a)) := by
 rintro ⟨⟨k, m, l, ks⟩, ⟨⟩⟩ h
 simp only [Bool.and_eq_true, decide_eq_true_eq] at h
 obtain ⟨h1, h2, h3, h4⟩ := cok_mk h.1
 have h5 : depC (Cert.mk k m l ks) < N + 1 := h.2
 rw [depC] at h5
 have e : (encL ((Cert.mk k m l ks, ()) : Cert × Unit) : List PV) = [PV.agg [enc k, enc m, enc l.k, enc l.t, enc ks]] := (enc_cert1 k m l ks).symm
 rw [e]
 refine csize_s N k m l ks ?_
 have := csize_loop N k m l ks (by omega) h3 h4 ks.length 0 1 (by omega)
 rw [List.length_map]
 exact this
theorem rcsize_loop (N : Nat) (k : Int) (m : List Int) (l : Lin) (ks : List Cert) (hN : depCs ks < N) (hlen : ks.length <= 9223372036854775807) (hok : cOks ks = true) : ∀ (j i : Nat) (n : Int), j + i = ks.length -> At (T_rcsize N) 0 (endP' rs_rcsize (Fits (sizeCs n (ks.drop i)))) ic_rcsize 0 21 [(1, .ptr 0 0), (3, .pv (.int .i64 n)), (4, .pv (.int .i64 i))] [.obj (.box [.pv (enc k), .pv (enc m), .pv (enc l.k), .pv (enc l.t), .pv (enc ks)])] := by
 intro j
 induction j with
 | zero =>
  intro i n hi
  exact rcsize_h0 N k m l ks n i (iteF (lt_no (by omega)) (fitI (by rw [List.drop_of_length_le (by omega), sizeCs])))
 | succ j ih =>
  intro i n hi
  have hlt : i < ks.length := by omega
  have h := ih (i + 1) (w64 (n + sizeC ks[i])) (by omega)
  have hd := depCs_le (List.getElem_mem hlt)
  have ho := cOks_mem hok (List.getElem_mem hlt)
  refine rcsize_h0 N k m l ks n i (iteT (lt_ok hlt) ⟨idx_ok hlt rfl, el_ex hlt ?_⟩)
  rw [List.drop_eq_getElem_cons hlt, sizeCs, next (by omega)]
  generalize ks[i] = c at h hd ho ⊢
  obtain ⟨k', m', l', ks'⟩ := c
  rw [enc_cert]
  exact ⟨rfl, pre_enc (.mk k' m' l' ks', ()) (enc_cert1 k' m' l' ks') (by show (cOk _ && decide _) = true; rw [ho, decide_eq_true (show depC (Cert.mk k' m' l' ks') < N by omega)]; rfl), ex_enc (.mk k' m' l' ks', ()) (enc_cert1 k' m' l' ks') h⟩
theorem rcsize_run (N : Nat) : ∀ a : Cert × Unit, (cOk a.1 && decide (depC a.1 < N + 1)) = true -> Gets (T_rcsize N) 0 (endP' rs_rcsize (Fits (sizeC a.1))) ic_rcsize [] (st0 nt_rcsize (encL a)) := by
 rintro ⟨⟨k, m, l, ks⟩, ⟨⟩⟩ h
 simp only [Bool.and_eq_true, decide_eq_true_eq] at h
 obtain ⟨h1, h2, h3, h4⟩ := cok_mk h.1
 have h5 : depC (Cert.mk k m l ks) < N + 1 := h.2
 rw [depC] at h5
 have e : (encL ((Cert.mk k m l ks, ()) : Cert × Unit) : List PV) = [PV.agg [enc k, enc m, enc l.k, enc l.t, enc ks]] := (enc_cert1 k m l ks).symm
 rw [e]
 refine rcsize_s N k m l ks ?_
 exact rcsize_loop N k m l ks (by omega) h3 h4 ks.length 0 1 (by omega)
theorem rfew_loop (l : Lin) (n : Int) (hl : l.t.length <= 9223372036854775807) : ∀ (j i : Nat), j + i = l.t.length -> At T_rfew 0 (endP' rs_rfew (Fits ((l.t.drop i).all (fun t => decide (t.v.s.length <= 40)) && decide ((l.t.length : Int) <= n)))) ic_rfew 0 26 [(1, .pv (.int .i64 n)), (2, .ptr 0 0), (5, .pv (.int .i64 i))] [.obj (.box [.pv (.int .i64 l.k), .pv (enc l.t)])] := by
 intro j
 induction j with
 | zero =>
  intro i hi
  exact rfew_h0 l n i (iteF (lt_no (by omega)) (fitB (by rw [List.drop_of_length_le (by omega), List.length_map]; rfl)))
 | succ j ih =>
  intro i hi
  have hlt : i < l.t.length := by omega
  have h := ih (i + 1) (by omega)
  refine rfew_h0 l n i (iteT (lt_ok hlt) ⟨idx_ok hlt rfl, el_ex hlt ?_⟩)
  rw [List.drop_eq_getElem_cons hlt, List.all_cons, next (by omega)]
  refine iteD (fun h40 => ?_) fun h40 => ?_
  ·have h40 : (l.t[i].v.s.length : Int) > 40 := h40
   exact fitB (by rw [decide_eq_false (show ¬ l.t[i].v.s.length <= 40 by omega)]; rfl)
  ·have h40 : ¬ (l.t[i].v.s.length : Int) > 40 := h40
   rw [decide_eq_true (show l.t[i].v.s.length <= 40 by omega), Bool.true_and]
   exact h
theorem rfew_run : ∀ a : Lin × Int × Unit, linOk a.1 = true -> Gets T_rfew 0 (endP' rs_rfew (Fits (few4 a.1 a.2.1))) ic_rfew [] (st0 nt_rfew (encL a)) := by
 rintro ⟨l, n, ⟨⟩⟩ hl
 exact rfew_s l n (rfew_loop l n (by simpa [linOk] using hl) l.t.length 0 (by omega))
theorem rfew7_loop (l : List Fact) (n : Int) (hl : l.length <= 9223372036854775807) (hk : l.all (fun f => linOk f.l) = true) : ∀ (j i : Nat), j + i = l.length -> At T_rfew7 0 (endP' rs_rfew7 (Fits ((l.drop i).all (fun f => few4 f.l 8) && decide ((l.length : Int) <= n)))) ic_rfew7 0 23 [(0, .pv (enc l)), (1, .pv (.int .i64 n)), (5, .pv (.int .i64 i))] [] := by
 intro j
 induction j with
 | zero =>
  intro i hi
  exact rfew7_h0 l n i (iteF (lt_no (by omega)) (fitB (by rw [List.drop_of_length_le (by omega), List.length_map]; rfl)))
 | succ j ih =>
  intro i hi
  have hlt : i < l.length := by omega
  have h := ih (i + 1) (by omega)
  have ho : linOk l[i].l = true := by rw [List.all_eq_true] at hk; exact hk _ (List.getElem_mem hlt)
  refine rfew7_h0 l n i (iteT (lt_ok hlt) ⟨idx_ok hlt rfl, el_ex hlt ⟨pre_enc (l[i].l, 8, ()) rfl ho, ex_enc (l[i].l, 8, ()) rfl ?_⟩⟩)
  rw [List.drop_eq_getElem_cons hlt, List.all_cons, next (by omega)]
  refine iteN (fun hf => ?_) fun hf => ?_
  ·have hf : few4 l[i].l 8 = false := hf
   exact fitB (by rw [hf]; rfl)
  ·have hf : few4 l[i].l 8 = true := hf
   rw [hf, Bool.true_and]
   exact h
def few7 (l : List Fact) (n : Int) : Bool := l.all (fun f => few4 f.l 8) && decide ((l.length : Int) <= n)
def factsOk (l : List Fact) : Bool := decide (l.length <= 9223372036854775807) && l.all fun f => linOk f.l
theorem rfew7_run : ∀ a : List Fact × Int × Unit, factsOk a.1 = true -> Gets T_rfew7 0 (endP' rs_rfew7 (Fits (few7 a.1 a.2.1))) ic_rfew7 [] (st0 nt_rfew7 (encL a)) := by
 rintro ⟨l, n, ⟨⟩⟩ hl
 simp only [factsOk, Bool.and_eq_true, decide_eq_true_eq] at hl
 exact rfew7_s l n (rfew7_loop l n hl.1 hl.2 l.length 0 (by omega))
end Go.Pl

namespace Go.Pl
open Go.RowKit
open Enc (enc dec is)
open EncL (encL decL isL)
theorem rval7_loop (l : List Fact) (hl : factsSm l = true) : ∀ (j i : Nat), j + i = l.length -> At T_rval7 0 (endP' rs_rval7 (Fits (valid7 (l.drop i)))) ic_rval7 0 17 [(0, .pv (enc l)), (3, .pv (.int .i64 i))] [] := by
 intro j
 induction j with
 | zero =>
  intro i hi
  exact rval7_h0 l i (iteF (lt_no (by omega)) (fitB (by rw [List.drop_of_length_le (by omega)]; rfl)))
 | succ j ih =>
  intro i hi
  have hl' := hl
  simp only [factsSm, Bool.and_eq_true, decide_eq_true_eq, List.all_eq_true] at hl'
  have hlt : i < l.length := by omega
  have h := ih (i + 1) (by omega)
  have ho : linOk l[i].l = true := by
   have := hl'.2 _ (List.getElem_mem hlt)
   simp only [linSm, Bool.and_eq_true] at this
   exact this.1
  refine rval7_h0 l i (iteT (lt_ok hlt) ⟨idx_ok hlt rfl, el_ex hlt ⟨pre_enc (l[i].l, ()) rfl ho, ex_enc (l[i].l, ()) rfl ?_⟩⟩)
  rw [List.drop_eq_getElem_cons hlt, valid7, List.all_cons, next (by omega)]
  refine iteN (fun hf => ?_) fun hf => ?_
  ·have hf : validL l[i].l = false := hf
   exact fitB (by rw [hf]; rfl)
  ·have hf : validL l[i].l = true := hf
   rw [hf, Bool.true_and]
   exact h
theorem rval7_run : ∀ a : List Fact × Unit, factsSm a.1 = true -> Gets T_rval7 0 (endP' rs_rval7 (Fits (valid7 a.1))) ic_rval7 [] (st0 nt_rval7 (encL a)) := by
 rintro ⟨l, ⟨⟩⟩ h
 exact rval7_s l (rval7_loop l h l.length 0 rfl)
theorem rsmall7_loop (N : Nat) (k : Int) (m : List Int) (l : Lin) (ks : List Cert) (hN : depCs ks < N) (hlen : ks.length <= 9223372036854775807) (hok : cOks ks = true) : ∀ (j i : Nat) (n : Int), j + i = ks.length -> At (T_rsmall7 N) 0 (endP' rs_rsmall7 (Fits (smallCs (ks.drop i) n))) ic_rsmall7 0 51 [(1, .pv (.int .i64 n)), (2, .ptr 0 0), (5, .pv (.int .i64 i))] [.obj (.box [.pv (enc k), .pv (enc m), .pv (enc l.k), .pv (enc l.t), .pv (enc ks)])] := by
 intro j
 induction j with
 | zero =>
  intro i n hi
  exact rsmall7_h0 N k m l ks n i (iteF (lt_no (by omega)) (fitB (by rw [List.drop_of_length_le (by omega), smallCs])))
 | succ j ih =>
  intro i n hi
  have hlt : i < ks.length := by omega
  have h := ih (i + 1) (w64 (n - sizeC ks[i])) (by omega)
  have hd := depCs_le (List.getElem_mem hlt)
  have ho := cOks_mem hok (List.getElem_mem hlt)
  refine rsmall7_h0 N k m l ks n i (iteT (lt_ok hlt) ⟨idx_ok hlt rfl, el_ex hlt ⟨cert_fit _, ?_⟩⟩)
  simp only [cert_args]
  refine ⟨pre_enc (ks[i], w64 (n - 1), ()) rfl (by show (cOk _ && decide _) = true; rw [ho, decide_eq_true (show depC ks[i] < N by omega)]; rfl), ex_enc (ks[i], w64 (n - 1), ()) rfl ?_⟩
  rw [List.drop_eq_getElem_cons hlt, smallCs, next (by omega)]
  refine iteN (fun hf => ?_) fun hf => ?_
  ·have hf : smallC ks[i] (w64 (n - 1)) = false := hf
   exact fitB (by rw [hf]; rfl)
  ·have hf : smallC ks[i] (w64 (n - 1)) = true := hf
   rw [hf, Bool.true_and]
   refine ⟨idx_ok hlt rfl, el_ex hlt ⟨cert_fit _, ?_⟩⟩
   exact ⟨pre_enc (ks[i], ()) rfl ho, ex_enc (ks[i], ()) rfl h⟩
theorem rsmall7_run (N : Nat) : ∀ a : Cert × Int × Unit, (cOk a.1 && decide (depC a.1 < N + 1)) = true -> Gets (T_rsmall7 N) 0 (endP' rs_rsmall7 (Fits (smallC a.1 a.2.1))) ic_rsmall7 [] (st0 nt_rsmall7 (encL a)) := by
 rintro ⟨⟨k, m, l, ks⟩, n, ⟨⟩⟩ h
 simp only [Bool.and_eq_true, decide_eq_true_eq] at h
 obtain ⟨h1, h2, h3, h4⟩ := cok_mk h.1
 have h5 : depC (Cert.mk k m l ks) < N + 1 := h.2
 rw [depC] at h5
 have e : (encL ((Cert.mk k m l ks, n, ()) : Cert × Int × Unit) : List PV) = [PV.agg [enc k, enc m, enc l.k, enc l.t, enc ks], enc n] := by
  show [enc (Cert.mk k m l ks), enc n] = _
  rw [enc_cert]
 rw [e]
 have hlo : linOk l = true := by simpa [linOk] using h2
 refine rsmall7_s N k m l ks n ?_
 show if decide (((List.map (enc : Int -> PV) m).length : Int) > 60) = true then Fits (smallC (.mk k m l ks) n) _ else _
 rw [List.length_map, smallC]
 refine iteD (fun g1 => fitB (by rw [decide_eq_true g1]; rfl)) fun g1 => ⟨pre_enc (l, 8, ()) rfl hlo, ex_enc (l, 8, ()) rfl ?_⟩
 rw [decide_eq_false g1]
 refine iteN (fun g2 => ?_) fun g2 => iteD (fun g3 => ?_) fun g3 => ?_
 ·have g2 : few4 l 8 = false := g2
  exact fitB (by rw [g2]; rfl)
 ·have g2 : few4 l 8 = true := g2
  exact fitB (by rw [g2, decide_eq_true g3]; rfl)
 have g2 : few4 l 8 = true := g2
 rw [g2, decide_eq_false g3]
 show if decide (((List.map (enc : Cert -> PV) ks).length : Int) > n) = true then _ else _
 rw [List.length_map]
 refine iteD (fun g4 => fitB (by rw [decide_eq_true g4]; rfl)) fun g4 => ?_
 rw [decide_eq_false g4]
 exact rsmall7_loop N k m l ks (by omega) h3 h4 ks.length 0 n (by omega)
theorem ritoa1_run : ∀ a : Int × Unit, decide (a.1 = 1) = true -> Gets T_ritoa1 0 (endP' rs_ritoa1 (Fits itoa1)) ic_ritoa1 [] (st0 nt_ritoa1 (encL a)) := by
 rintro ⟨n, ⟨⟩⟩ h
 obtain rfl : n = 1 := by simpa using h
 exact ritoa1_s ⟨rfl, rfl⟩
theorem ritoam_run : ∀ a : Int × Unit, decide (a.1 = -1) = true -> Gets T_ritoam 0 (endP' rs_ritoam (Fits itoam)) ic_ritoam [] (st0 nt_ritoam (encL a)) := by
 rintro ⟨n, ⟨⟩⟩ h
 obtain rfl : n = -1 := by simpa using h
 exact ritoam_s (ex_enc ((1 : Int), ()) rfl ⟨by decide, rfl, rfl⟩)
theorem rprint1_run : ∀ a : Lin × Unit, decide (a.1 = exL) = true -> Gets T_rprint1 0 (endP' rs_rprint1 (Fits print1)) ic_rprint1 [] (st0 nt_rprint1 (encL a)) := by
 rintro ⟨l, ⟨⟩⟩ h
 obtain rfl : l = exL := by simpa using h
 have hv : validL exL = true := by decide
 refine rprint1_s (ex_enc (exL, ()) rfl (iteN (fun hf => ?_) fun _ => ?_))
 ·have hf : validL exL = false := hf
  rw [hv] at hf; cases hf
 exact rprint1_h0a [] ⟨by decide, rprint1_h0b (ex_enc ((-1 : Int), ()) rfl ⟨by decide, rfl, rfl⟩)⟩
theorem lsum7_run : ∀ a : List Int × Unit, true = true -> Gets T_lsum7 0 (endP' rs_lsum7 (Fits (Cert.mk 1 a.1 ⟨0, []⟩ []))) ic_lsum7 [] (st0 nt_lsum7 (encL a)) := by
 rintro ⟨m, ⟨⟩⟩ -
 refine lsum7_s m ⟨?_, ?_⟩
 ·rw [is_cert]
  show (true && is (List Int) (enc m) && true && true && true) = true
  rw [Enc.is_enc]; rfl
 ·rw [dec_cert _ _ _ _ _ rfl]
  show Cert.mk 1 (dec (enc m)) ⟨0, []⟩ [] = _
  rw [Enc.dec_enc]
end Go.Pl

namespace Go.Pl
open Go.RowKit
open Enc (enc dec is)
open EncL (encL decL isL)
def nS : Str := ⟨[110]⟩
def exF : List Fact := [⟨true, ⟨-1, [⟨nS, 2⟩]⟩⟩]
def exL2 : Lin := ⟨0, [⟨nS, -1⟩]⟩
def sumC (m : List Int) : Cert := .mk 1 m ⟨0, []⟩ []
def exC2 : Cert := .mk 2 [-1, 0] ⟨0, []⟩ [sumC [0, 1, 1]]
def exC : Cert := .mk 2 [1] ⟨0, []⟩ [exC2]
theorem sortS_one (x : List UInt8) : sortS [x] = [x] := by simp [sortS]
theorem cutM_one (n : Int) (s : Str) (c : Int) : cutM n [(s, c)] = if validL ⟨(divI n (gcdsI [c])).1, [⟨s, w64 (c.tdiv (gcdsI [c]))⟩]⟩ then (⟨(divI n (gcdsI [c])).1, [⟨s, w64 (c.tdiv (gcdsI [c]))⟩]⟩, 0) else (⟨0, []⟩, 3) := by
 simp [cutM, valsM, namesS, keysM, sortS_one, cutT, atM]
theorem cut_ex1 : cutL exF [1] = (exL, 0) := by
 have h1 : valid7 exF = true := by decide
 have h2 : okC exF [1] = true := by decide
 have h3 : cfold exF [1] = (-1, [(nS, 2)]) := by decide
 have h4 : nzM [(nS, 2)] = [(nS, 2)] := by decide
 rw [cutL, h1, h2, h3, if_pos rfl, if_pos rfl, h4, cutM_one]
 decide
def exF2 : List Fact := moreF exF exL
theorem cut_ex2 : cutL exF2 [-1, 0] = (exL2, 0) := by
 have h1 : valid7 exF2 = true := by decide
 have h2 : okC exF2 [-1, 0] = true := by decide
 have h3 : cfold exF2 [-1, 0] = (1, [(nS, -2)]) := by decide
 have h4 : nzM [(nS, -2)] = [(nS, -2)] := by decide
 rw [cutL, h1, h2, h3, if_pos rfl, if_pos rfl, h4, cutM_one]
 decide
theorem ref_ex : refC exF exC = true := by
 have h3 : sumN (moreF exF2 exL2) [0, 1, 1] = true := by decide
 have e1 : moreF exF (cutL exF [1]).1 = exF2 := by rw [cut_ex1]; rfl
 have b1 : bareB exC 1 true = true := by decide
 have b2 : bareB exC2 1 true = true := by decide
 have b3 : bareB (sumC [0, 1, 1]) 0 true = true := by decide
 unfold exC
 rw [refC2, e1]
 unfold exC2
 rw [refC2, cut_ex2]
 unfold sumC
 rw [refC1, h3]
 rw [cut_ex1]
 decide
theorem ref_exn : refC exF (sumC [1]) = false := by
 unfold sumC
 rw [refC1]
 decide
theorem check_ex : checkC exF exC = 0 := by
 have h1 : valid7 exF = true := by decide
 have h2 : ¬ sizeC exC > 1000 := by decide
 rw [checkC, h1, if_pos rfl, if_neg (by decide), if_neg h2, ref_ex, if_pos rfl]
theorem check_exn : checkC exF (sumC [1]) = 18 := by
 have h1 : valid7 exF = true := by decide
 have h2 : ¬ sizeC (sumC [1]) > 1000 := by decide
 rw [checkC, h1, if_pos rfl, if_neg (by decide), if_neg h2, ref_exn]
 rfl
def argC (p : PV) : PV := .agg [.int .i64 2, .sl 1 false [.int .i64 1], .int .i64 0, .sl 0 true [], .sl 5 false [.agg [.int .i64 2, .sl 1 false [.int .i64 (-1), .int .i64 0], .int .i64 0, .sl 0 true [], .sl 5 false [p]]]]
theorem argC_dec (y : Cert) : (dec (argC (enc y)) : Cert) = .mk 2 [1] ⟨0, []⟩ [.mk 2 [-1, 0] ⟨0, []⟩ [y]] := by
 have h : (dec (argC (enc y)) : Cert) = .mk 2 [1] ⟨0, []⟩ [.mk 2 [-1, 0] ⟨0, []⟩ [certD (certP y)]] := rfl
 rw [h, certD_P]
theorem argC_is (y : Cert) : is Cert (argC (enc y)) = true := by
 have h : is Cert (argC (enc y)) = ((certI (certP y) && true) && true) := rfl
 rw [h, certI_P]; rfl
theorem awake7_run : ∀ a : Unit, true = true -> Gets T_awake7 0 (endP' rs_awake7 (Fits true)) ic_awake7 [] (st0 nt_awake7 (encL a)) := by
 rintro ⟨⟩ -
 have ep : plusL (⟨-1, []⟩ : Lin) nS 2 = ⟨-1, [⟨nS, 2⟩]⟩ := by decide
 have hf : factsSm exF = true := by decide
 have hc : cSm exC = true := by decide
 have hc1 : cSm (sumC [1]) = true := by decide
 have i1 : isL (List Fact × Cert × Unit) [enc exF, argC (enc (sumC [0, 1, 1]))] = true := by
  show (is (List Fact) (enc exF) && (is Cert (argC (enc (sumC [0, 1, 1]))) && true)) = true
  rw [argC_is, Enc.is_enc]; rfl
 have d1 : (decL [enc exF, argC (enc (sumC [0, 1, 1]))] : List Fact × Cert × Unit) = (exF, exC, ()) := by
  show ((dec (enc exF) : List Fact), (dec (argC (enc (sumC [0, 1, 1]))) : Cert), ()) = _
  rw [argC_dec, Enc.dec_enc]; rfl
 have i2 : isL (Cert × Unit) [argC (enc (sumC [0, 1, 1]))] = true := by
  show (is Cert (argC (enc (sumC [0, 1, 1]))) && true) = true
  rw [argC_is]; rfl
 have d2 : (decL [argC (enc (sumC [0, 1, 1]))] : Cert × Unit) = (exC, ()) := by
  show ((dec (argC (enc (sumC [0, 1, 1]))) : Cert), ()) = _
  rw [argC_dec]; rfl
 refine awake7_s (ex_enc ((-1 : Int), ()) rfl ⟨pre_enc (⟨-1, []⟩, nS, 2, ()) rfl (by decide), ex_enc (⟨-1, []⟩, nS, 2, ()) rfl (ex_enc ([0, 1, 1], ()) rfl ⟨?_, ?_⟩)⟩)
 ·rfl
 simp only [ep]
 refine ⟨pre_enc (exF, [1], ()) rfl (by decide), ex_enc (exF, [1], ()) rfl ?_⟩
 simp only [cut_ex1]
 refine ⟨pre_val (exF, exC, ()) i1 d1 (by show (factsSm exF && cSm exC && decide (exF.length + depC exC <= 300)) = true; rw [hf, hc]; decide), ex_val (exF, exC, ()) d1 ?_⟩
 simp only [check_ex]
 refine iteT rfl (ex_enc ([1], ()) rfl ⟨pre_enc (exF, sumC [1], ()) rfl (by show (factsSm exF && cSm (sumC [1]) && decide (exF.length + depC (sumC [1]) <= 300)) = true; rw [hf, hc1]; decide), ex_enc (exF, sumC [1], ()) rfl ?_⟩)
 simp only [check_exn]
 refine iteT rfl ⟨pre_val (exC, ()) i2 d2 (by decide), ex_val (exC, ()) d2 ?_⟩
 have hz : sizeC exC = 3 := by decide
 simp only [hz]
 refine iteT rfl (iteT rfl ⟨pre_enc (exL, ()) rfl (by decide), ex_enc (exL, ()) rfl (iteT rfl ⟨pre_enc (exF, ()) rfl hf, ex_enc (exF, ()) rfl (fitB (by decide))⟩)⟩)
end Go.Pl

namespace Go.Pl
open Go.RowKit
open Enc (enc dec is)
open EncL (encL decL isL)
def cmpR (x y : List Coef) (a b : Int) : Int := if cmpT x y ≠ 0 then cmpT x y else cmpK a b
theorem rcmp_loop (a b : Lin) (hl : a.t.length <= 9223372036854775807) : ∀ (m i : Nat), m + i = a.t.length -> i <= b.t.length -> At T_rcmp 0 (endP' rs_rcmp (Fits (cmpR (a.t.drop i) (b.t.drop i) a.k b.k))) ic_rcmp 0 95 [(2, .ptr 0 0), (3, .ptr 1 0), (5, .pv (.int .i64 i))] [.obj (.box [.pv (.int .i64 a.k), .pv (enc a.t)]), .obj (.box [.pv (.int .i64 b.k), .pv (enc b.t)])] := by
 intro m
 induction m with
 | zero =>
  intro i hi hb
  refine rcmp_h0 a b i (iteF (lt_no (by omega)) ?_)
  rw [List.drop_of_length_le (show a.t.length <= i by omega)]
  refine iteD (fun h1 => ?_) fun h1 => ?_
  ·simp only [List.length_map] at h1
   refine fitI ?_
   obtain ⟨t, r, e⟩ : ∃ t r, b.t.drop i = t :: r := by
    cases e : b.t.drop i with
    | nil => have := List.length_drop (l := b.t) (i := i); rw [e] at this; simp at this; omega
    | cons t r => exact ⟨t, r, rfl⟩
   rw [e]; rfl
  ·simp only [List.length_map] at h1
   have e : b.t.drop i = [] := List.drop_of_length_le (by omega)
   rw [e]
   have hlen : (List.length (List.map (enc : Coef -> PV) a.t) : Int) = (List.length (List.map (enc : Coef -> PV) b.t) : Int) := by simp; omega
   refine iteE (fun _ => ?_) fun h => absurd hlen h
   have ec : cmpR [] [] a.k b.k = cmpK a.k b.k := by simp [cmpR, cmpT]
   rw [ec]
   unfold cmpK
   refine iteD (fun h2 => fitI (by rw [if_pos h2])) fun h2 => iteD (fun h3 => by simp only [List.length_map] at h3; omega) fun h3 => iteD (fun h4 => fitI (by rw [if_neg h2, if_pos h4])) fun h4 => fitI (by rw [if_neg h2, if_neg h4])
 | succ m ih =>
  intro i hi hb
  have hlt : i < a.t.length := by omega
  refine rcmp_h0 a b i (iteT (lt_ok hlt) ?_)
  by_cases hlb : i < b.t.length
  ·have h := ih (i + 1) (by omega) (by omega)
   refine iteT (lt_ok hlb) ⟨idx_ok hlt rfl, el_ex hlt ⟨idx_ok hlb rfl, el_ex hlb ?_⟩⟩
   rw [List.drop_eq_getElem_cons hlt, List.drop_eq_getElem_cons hlb, next (by omega)]
   generalize a.t[i] = x at h ⊢
   generalize b.t[i] = y at h ⊢
   obtain ⟨⟨xv⟩, xc⟩ := x
   obtain ⟨⟨yv⟩, yc⟩ := y
   refine iteB (fun h1 => ?_) fun h1 => ?_
   ·have h1 : xv < yv := by have := (bytesLess_eq xv yv).symm.trans h1; simpa using this
    exact fitI (by simp [cmpR, cmpT, h1])
   have h1 : ¬ xv < yv := by have := (bytesLess_eq xv yv).symm.trans h1; simpa using this
   refine iteE (fun h2 => ?_) fun h2 => ?_
   ·have h2 : xv = yv := h2
    subst h2
    refine iteD (fun h3 => ?_) fun h3 => ?_
    ·have h3 : xc < yc := h3
     exact fitI (by simp [cmpR, cmpT, h1, h3])
    have h3 : ¬ xc < yc := h3
    refine iteN (fun h4 => ?_) fun h4 => ?_
    ·have h4 : (xv == xv && (xc == yc && true)) = false := h4
     have h4 : xc ≠ yc := by simpa using h4
     exact fitI (by simp [cmpR, cmpT, h1, h3, h4])
    ·have h4 : (xv == xv && (xc == yc && true)) = true := h4
     have h4 : xc = yc := by simpa using h4
     subst h4
     have e : cmpR (⟨⟨xv⟩, xc⟩ :: a.t.drop (i + 1)) (⟨⟨xv⟩, xc⟩ :: b.t.drop (i + 1)) a.k b.k = cmpR (a.t.drop (i + 1)) (b.t.drop (i + 1)) a.k b.k := by simp [cmpR, cmpT, List.lt_irrefl xv]
     rw [e]
     exact h
   ·have h2 : ¬ xv = yv := h2
    refine iteN (fun h4 => fitI (by simp [cmpR, cmpT, h1, h2])) fun h4 => ?_
    have h4 : (xv == yv && (xc == yc && true)) = true := h4
    simp [h2] at h4
  ·refine iteF (lt_no hlb) ?_
   obtain ⟨t, r, e⟩ : ∃ t r, a.t.drop i = t :: r := ⟨_, _, List.drop_eq_getElem_cons hlt⟩
   rw [e, List.drop_of_length_le (show b.t.length <= i by omega)]
   refine iteD (fun h1 => by simp only [List.length_map] at h1; omega) fun h1 => iteE (fun h2 => by simp only [List.length_map] at h2; omega) fun h2 => iteD (fun h3 => fitI (by simp [cmpR, cmpT])) fun h3 => by simp only [List.length_map] at h3; omega
theorem rcmp_run : ∀ a : Lin × Lin × Unit, linOk a.1 = true -> Gets T_rcmp 0 (endP' rs_rcmp (Fits (cmpL a.1 a.2.1))) ic_rcmp [] (st0 nt_rcmp (encL a)) := by
 rintro ⟨a, b, ⟨⟩⟩ hl
 exact rcmp_s a b (rcmp_loop a b (by simpa [linOk] using hl) a.t.length 0 (by omega) (by omega))
def eqL' (a b : Lin) : Bool := cmpL a b == 0
theorem req_run : ∀ a : Lin × Lin × Unit, linOk a.1 = true -> Gets T_req 0 (endP' rs_req (Fits (eqL' a.1 a.2.1))) ic_req [] (st0 nt_req (encL a)) := by
 rintro ⟨a, b, ⟨⟩⟩ hl
 exact req_s a b ⟨pre_enc (a, b, ()) rfl hl, ex_enc (a, b, ()) rfl (fitB rfl)⟩
end Go.Pl

namespace Go.Pl
open Go.RowKit
open Enc (enc dec is)
open EncL (encL decL isL)
theorem set_cell (ts : List Coef) (j : Nat) (x y : Coef) : List.set (List.map enc ts) j (PV.withCells (enc y) (splice (PV.cells (enc y)) 0 (PV.cells (PV.agg (shAll (PV.cells (enc x)) 0 [Sh.str, Sh.int .i64]))))) = List.map enc (ts.set j x) := by
 rw [List.map_set]
 rfl
theorem getD_z {α : Type} (f : α -> PV) {l : List α} {k : Nat} (h : k < l.length) : (l.map f).getD (0 + (k : Int).toNat) default = f l[k] := by rw [Nat.zero_add]; exact getD_map f h
theorem tri {x y : List UInt8} (h1 : ¬ x < y) (h2 : x ≠ y) : y < x := Decidable.byContradiction fun h => h2 (List.le_antisymm (List.not_lt.1 h) (List.not_lt.1 h1))
theorem ins_t (s : Str) (c : Int) (t : Coef) (r : List Coef) : insT s c true (t :: r) = (if t.v = s then ⟨t.v, w64 (t.c + c)⟩ else t) :: insT s c true r := by
 rw [insT]; simp only [Bool.not_true, Bool.false_and, Bool.false_eq_true, if_false, Bool.true_or, List.nil_append]; split <;> rfl
theorem ins_f (s : Str) (c : Int) (t : Coef) (r : List Coef) : insT s c false (t :: r) = if s.s < t.v.s then ⟨s, c⟩ :: t :: insT s c true r else if t.v = s then ⟨t.v, w64 (t.c + c)⟩ :: insT s c true r else t :: insT s c false r := by
 rw [insT]
 by_cases h : s.s < t.v.s
 ·have : ¬ t.v = s := fun e => by rw [e] at h; exact List.lt_irrefl _ h
  simp [h, this]
 ·simp [h]
theorem ins_len_t (s : Str) (c : Int) : ∀ (l : List Coef), (insT s c true l).length = l.length
 | [] => by simp [insT]
 | t :: l => by rw [ins_t]; simp [ins_len_t s c l]
theorem ins_len_f (s : Str) (c : Int) : ∀ (l : List Coef), (insT s c false l).length <= l.length + 1
 | [] => by simp [insT]
 | t :: l => by
  have h1 := ins_len_t s c l
  have h2 := ins_len_f s c l
  rw [ins_f]
  split
  ·simp [h1]
  ·split <;> simp [h1] <;> omega
theorem plus_len (l : Lin) (s : Str) (c : Int) : (plusL l s c).t.length <= l.t.length + 1 := Nat.le_trans (List.length_filter_le _ _) (ins_len_f s c l.t)
theorem str_ext {a b : Str} : a = b ↔ a.s = b.s := ⟨fun h => by rw [h], fun h => by cases a; cases b; cases h; rfl⟩
theorem rof_run : ∀ a : Int × Unit, true = true -> Gets T_rof 0 (endP' rs_rof (Fits (⟨a.1, []⟩ : Lin))) ic_rof [] (st0 nt_rof (encL a)) := by
 rintro ⟨n, ⟨⟩⟩ -
 exact rof_s n ⟨by simp, by simp⟩
end Go.Pl

namespace Go.Pl
open Go.RowKit
open Enc (enc dec is)
open EncL (encL decL isL)
set_option maxRecDepth 100000
def ic_iabs : IC := (.seq (.reg [⟨(some 2), (.mv (.c (.int .i64 0))), 0, none⟩] none) (.seq (.seq (.reg [⟨(some 3), (.mv (.t 0)), 0, none⟩, ⟨(some 4), (.bin .num .lss (.t 3) (.c (.int .i64 0))), 0, none⟩] none) (.cond (.t 4) (.seq (.reg [⟨(some 5), (.mv (.t 0)), 0, none⟩, ⟨(some 6), (.un .neg (.t 5)), 0, none⟩, ⟨(some 2), (.mv (.t 6)), 0, none⟩] none) .ret) .skip)) (.seq (.reg [⟨(some 7), (.mv (.t 0)), 0, none⟩, ⟨(some 2), (.mv (.t 7)), 0, none⟩] none) .ret)))
def rs_iabs : List IRes := [(.tmp 2)]
abbrev nt_iabs : Nat := 8
def T_iabs : Tab := tab []
theorem iabs_s {G : PV -> Prop} (a : Int) (h : if (decide (a < 0)) = true then G ((.int .i64 (IntKind.wrap IntKind.i64 (-a)))) else (G ((.int .i64 a)))) : Gets T_iabs 0 (endP' rs_iabs G) ic_iabs [] (st0 8 [enc a]) := Gets.tp (.lit (.ask (.nil) (.nil))) h (by kernel_rfl)
def ic_rabs : IC := ic_iabs
def rs_rabs : List IRes := [(.tmp 2)]
abbrev nt_rabs : Nat := 8
def T_rabs : Tab := tab []
theorem rabs_s {G : PV -> Prop} (a : Int) (h : if (decide (a < 0)) = true then G ((.int .i64 (IntKind.wrap IntKind.i64 (-a)))) else (G ((.int .i64 a)))) : Gets T_rabs 0 (endP' rs_rabs G) ic_rabs [] (st0 8 [enc a]) := Gets.tp (.lit (.ask (.nil) (.nil))) h (by kernel_rfl)
def ic_rin : IC := (.seq (.reg [⟨(some 2), (.mv (.c (.bool false))), 0, none⟩] none) (.seq (.reg [⟨(some 3), (.mv (.t 0)), 0, none⟩, ⟨(some 4), (.bin .num .geq (.t 3) (.c (.int .i64 (-4611686018427387904)))), 0, none⟩, ⟨(some 5), (.mv (.t 4)), 0, none⟩, ⟨(some 6), (.mv (.t 0)), 0, (some (5, true))⟩, ⟨(some 7), (.bin .num .leq (.t 6) (.c (.int .i64 4611686018427387904))), 0, (some (5, true))⟩, ⟨(some 8), (.pick (.t 5) (.t 7) (.c (.bool false))), 0, none⟩, ⟨(some 2), (.mv (.t 8)), 0, none⟩] none) .ret))
def rs_rin : List IRes := [(.tmp 2)]
abbrev nt_rin : Nat := 9
def T_rin : Tab := tab []
theorem rin_s {G : PV -> Prop} (a : Int) (h : if (decide (a ≥ (-4611686018427387904 : Int))) = true then G ((.bool (decide (a <= 4611686018427387904)))) else (G ((.bool false)))) : Gets T_rin 0 (endP' rs_rin G) ic_rin [] (st0 9 [enc a]) := Gets.tp (.lit (.ask (.lit (.lit (.lit (.nil)))) (.lit (.lit (.nil))))) h (by kernel_rfl)
def ic_iin : IC := (.seq (.reg [⟨(some 2), (.mv (.c (.bool false))), 0, none⟩] none) (.seq (.seq (.reg [⟨(some 5), (.mv (.t 0)), 0, none⟩, ⟨(some 6), (.len 1 (.t 5)), 0, none⟩, ⟨(some 7), (.mv (.c (.int .i64 0))), 0, none⟩] none) (.block 0 (.loop [7, 6, 5] (.seq (.reg [⟨(some 8), (.bin .num .lss (.t 7) (.t 6)), 0, none⟩] none) (.seq (.cond (.t 8) .skip (.exit 0)) (.seq (.block 1 (.seq (.reg [⟨(some 9), (.iaddr 1 (.t 5) (.t 7)), 0, none⟩, ⟨(some 10), (.load false [(.int .i64)] (.t 9)), 0, none⟩, ⟨(some 4), (.mv (.t 10)), 0, none⟩] none) (.seq (.reg [⟨(some 11), (.mv (.t 4)), 0, none⟩, ⟨(some 12), (.bin .num .lss (.t 11) (.c (.int .i64 (-4611686018427387904)))), 0, none⟩, ⟨(some 13), (.mv (.t 12)), 0, none⟩, ⟨(some 14), (.mv (.t 4)), 0, (some (13, false))⟩, ⟨(some 15), (.bin .num .gtr (.t 14) (.c (.int .i64 4611686018427387904))), 0, (some (13, false))⟩, ⟨(some 16), (.pick (.t 13) (.c (.bool true)) (.t 15)), 0, none⟩] none) (.cond (.t 16) (.seq (.reg [⟨(some 2), (.mv (.c (.bool false))), 0, none⟩] none) .ret) .skip)))) (.reg [⟨(some 17), (.bin .num .add (.t 7) (.c (.int .i64 1))), 0, none⟩, ⟨(some 7), (.mv (.t 17)), 0, none⟩] none))))))) (.seq (.reg [⟨(some 2), (.mv (.c (.bool true))), 0, none⟩] none) .ret)))
def rs_iin : List IRes := [(.tmp 2)]
abbrev nt_iin : Nat := 18
def T_iin : Tab := tab []
theorem iin_s {G : PV -> Prop} (l : List Int) (h : At T_iin 0 (endP' rs_iin G) ic_iin 0 18 [(5, (.pv (.sl 1 false (List.map enc l)))), (6, (.pv (.int .i64 (↑(List.length (List.map enc l)) : Int)))), (7, (.pv (.int .i64 0)))] []) : Gets T_iin 0 (endP' rs_iin G) ic_iin [] (st0 18 [enc l]) := Gets.tp (.nil) h (by kernel_rfl)
theorem iin_h0 {G : PV -> Prop} (l : List Int) (i : Int) (h : if (decide (i < (↑(List.length l) : Int))) = true then (decide (0 <= i) && decide (Int.toNat i < List.length (List.map enc l)) && Enc.sz Int == 1) = true ∧ (∃ y0 : Int, AV.pv (PV.rptr (PV.cells (List.getD (List.map enc l) (Int.toNat i) default))) = AV.pv (PV.rptr (PV.cells ((enc) y0))) ∧ (if (decide (PV.asInt (List.getD (PV.cells (enc y0)) 0 default) < (-4611686018427387904 : Int))) = true then G ((.bool false)) else (if (decide (PV.asInt (List.getD (PV.cells (enc y0)) 0 default) > 4611686018427387904)) = true then G ((.bool false)) else (At T_iin 0 (endP' rs_iin G) ic_iin 0 18 [(5, (.pv (.sl 1 false (List.map enc l)))), (6, (.pv (.int .i64 (↑(List.length l) : Int)))), (7, (.pv (.int .i64 (IntKind.wrap IntKind.i64 (i + 1)))))] [])))) else (G ((.bool true)))) : At T_iin 0 (endP' rs_iin G) ic_iin 0 18 [(5, .pv (enc l)), (6, .pv (.int .i64 l.length)), (7, .pv (.int .i64 i))] [] := At.tp (.lit (.ask (.req (.abs (Int) (fun YY => AV.pv (PV.rptr (PV.cells ((enc) YY)))) (.lit (.lit (.ask (.lit (.lit (.lit (.nil)))) (.lit (.lit (.lit (.ask (.nil) (.lit (.nil))))))))))) (.nil))) h (by kernel_rfl)
def ic_igcd : IC := (.seq (.reg [⟨(some 4), (.mv (.c (.int .i64 0))), 0, none⟩] none) (.seq (.reg [⟨(some 5), (.mv (.t 0)), 0, none⟩, ⟨(some 6), (.call (.c (.fn 152)) [(.t 5)]), 0, none⟩, ⟨(some 7), (.mv (.t 1)), 2, none⟩, ⟨(some 8), (.call (.c (.fn 152)) [(.t 7)]), 2, none⟩, ⟨(some 0), (.mv (.t 6)), 4, none⟩, ⟨(some 1), (.mv (.t 8)), 4, none⟩] none) (.seq (.block 0 (.loop [1, 0] (.seq (.seq (.reg [⟨(some 9), (.mv (.t 1)), 0, none⟩, ⟨(some 10), (.bin .num .neq (.t 9) (.c (.int .i64 0))), 0, none⟩] none) (.cond (.t 10) .skip (.exit 0))) (.block 1 (.reg [⟨(some 11), (.mv (.t 1)), 0, none⟩, ⟨(some 12), (.mv (.t 0)), 0, none⟩, ⟨(some 13), (.mv (.t 1)), 0, none⟩, ⟨(some 14), (.bin .num .rem (.t 12) (.t 13)), 0, none⟩, ⟨(some 0), (.mv (.t 11)), 0, none⟩, ⟨(some 1), (.mv (.t 14)), 0, none⟩] (some [[], [], [], [1, 2], [0, 1], [3, 4, 0, 1, 2]])))))) (.seq (.reg [⟨(some 15), (.mv (.t 0)), 0, none⟩, ⟨(some 4), (.mv (.t 15)), 0, none⟩] none) .ret))))
def rs_igcd : List IRes := [(.tmp 4)]
abbrev nt_igcd : Nat := 16
def T_igcd : Tab := tab [(152, .pure (preT (fun _ : Int × Unit => true)) (valT (fun x : Int × Unit => absW x.1)))]
theorem igcd_s {G : PV -> Prop} (a b : Int) (h : ∃ y0 : Int, AV.pv (valT (fun (x : Int × Unit) => absW x.1) [(.int .i64 a)]) = AV.pv (enc y0) ∧ (∃ y1 : Int, AV.pv (valT (fun (x : Int × Unit) => absW x.1) [(.int .i64 b)]) = AV.pv (enc y1) ∧ (At T_igcd 0 (endP' rs_igcd G) ic_igcd 0 16 [(0, (.pv (.int .i64 y0))), (1, (.pv (.int .i64 y1)))] []))) : Gets T_igcd 0 (endP' rs_igcd G) ic_igcd [] (st0 16 [enc a, enc b]) := Gets.tp (.lit (.abs (Int) (fun YY => AV.pv (enc YY)) (.lit (.abs (Int) (fun YY => AV.pv (enc YY)) (.nil))))) h (by kernel_rfl)
theorem igcd_h0 {G : PV -> Prop} (a b : Int) (x y : Int) (h : if (y != 0) = true then (y != 0) = true ∧ (At T_igcd 0 (endP' rs_igcd G) ic_igcd 0 16 [(0, (.pv (.int .i64 y))), (1, (.pv (.int .i64 (Int.tmod x y))))] []) else (G ((.int .i64 x)))) : At T_igcd 0 (endP' rs_igcd G) ic_igcd 0 16 [(0, .pv (.int .i64 x)), (1, .pv (.int .i64 y))] [] := At.tp (.lit (.ask (.req (.nil)) (.nil))) h (by kernel_rfl)
def ic_idivide : IC := (.seq (.reg [⟨(some 4), (.mv (.c (.int .i64 0))), 0, none⟩, ⟨(some 5), (.mv (.c (.int .i64 0))), 0, none⟩] none) (.seq (.reg [⟨(some 8), (.mv (.t 0)), 0, none⟩, ⟨(some 9), (.mv (.t 1)), 0, none⟩, ⟨(some 10), (.bin .num .quo (.t 8) (.t 9)), 0, none⟩, ⟨(some 11), (.mv (.t 0)), 0, none⟩, ⟨(some 12), (.mv (.t 1)), 0, none⟩, ⟨(some 13), (.bin .num .rem (.t 11) (.t 12)), 0, none⟩, ⟨(some 6), (.mv (.t 10)), 0, none⟩, ⟨(some 7), (.mv (.t 13)), 0, none⟩] (some [[], [], [0, 1], [], [], [3, 4], [2, 0, 1], [5, 6, 0, 1, 2, 3, 4]])) (.seq (.block 0 (.seq (.reg [⟨(some 15), (.mv (.t 7)), 0, none⟩, ⟨(some 16), (.bin .num .eql (.t 15) (.c (.int .i64 0))), 0, none⟩, ⟨(some 14), (.mv (.t 16)), 0, none⟩] none) (.cond (.t 14) .skip (.seq (.reg [⟨(some 18), (.mv (.t 7)), 0, none⟩, ⟨(some 19), (.bin .num .lss (.t 18) (.c (.int .i64 0))), 0, none⟩, ⟨(some 20), (.mv (.t 1)), 0, none⟩, ⟨(some 21), (.bin .num .lss (.t 20) (.c (.int .i64 0))), 0, none⟩, ⟨(some 22), (.bin .bool .neq (.t 19) (.t 21)), 0, none⟩, ⟨(some 17), (.mv (.t 22)), 0, none⟩] none) (.cond (.t 17) (.seq (.reg [⟨(some 23), (.mv (.t 6)), 0, none⟩, ⟨(some 24), (.bin .num .sub (.t 23) (.c (.int .i64 1))), 0, none⟩, ⟨(some 25), (.mv (.t 7)), 0, none⟩, ⟨(some 26), (.mv (.t 1)), 0, none⟩, ⟨(some 27), (.bin .num .add (.t 25) (.t 26)), 0, none⟩, ⟨(some 4), (.mv (.t 24)), 0, none⟩, ⟨(some 5), (.mv (.t 27)), 0, none⟩] none) .ret) .skip))))) (.seq (.reg [⟨(some 28), (.mv (.t 6)), 0, none⟩, ⟨(some 29), (.mv (.t 7)), 0, none⟩, ⟨(some 4), (.mv (.t 28)), 0, none⟩, ⟨(some 5), (.mv (.t 29)), 0, none⟩] none) .ret))))
def rs_idivide : List IRes := [(.tmp 4), (.tmp 5)]
abbrev nt_idivide : Nat := 30
def T_idivide : Tab := tab []
theorem idivide_s {G : PV -> Prop} (a b : Int) (h : (b != 0) = true ∧ ((b != 0) = true ∧ (if (Int.tmod a b == 0) = true then G ((.tup [(.int .i64 (IntKind.wrap IntKind.i64 (Int.tdiv a b))), (.int .i64 (Int.tmod a b))])) else (if (!decide (Int.tmod a b < 0) == decide (b < 0)) = true then G ((.tup [(.int .i64 (IntKind.wrap IntKind.i64 (IntKind.wrap IntKind.i64 (Int.tdiv a b) - 1))), (.int .i64 (IntKind.wrap IntKind.i64 (Int.tmod a b + b)))])) else (G ((.tup [(.int .i64 (IntKind.wrap IntKind.i64 (Int.tdiv a b))), (.int .i64 (Int.tmod a b))]))))))) : Gets T_idivide 0 (endP' rs_idivide G) ic_idivide [] (st0 30 [enc a, enc b]) := Gets.tp (.req (.req (.lit (.ask (.nil) (.lit (.lit (.lit (.ask (.lit (.lit (.nil))) (.nil))))))))) h (by kernel_rfl)
def ic_idivi : IC := (.seq (.reg [⟨(some 4), (.mv (.c (.int .i64 0))), 0, none⟩] none) (.seq (.block 0 (.seq (.reg [⟨(some 6), (.mv (.t 0)), 0, none⟩, ⟨(some 7), (.mv (.t 1)), 0, none⟩, ⟨(some 8), (.bslice 3 1 2 (.int .i64 0) [(0, (.t 6)), (1, (.t 7))]), 0, none⟩, ⟨(some 9), (.call (.c (.fn 118)) [(.t 8)]), 1, none⟩, ⟨(some 10), (.un .not (.t 9)), 3, none⟩, ⟨(some 5), (.mv (.t 10)), 3, none⟩] none) (.cond (.t 5) (.seq (.reg [⟨(some 4), (.mv (.c (.int .i64 2))), 0, none⟩] none) .ret) (.seq (.reg [⟨(some 12), (.mv (.t 1)), 0, none⟩, ⟨(some 13), (.bin .num .eql (.t 12) (.c (.int .i64 0))), 0, none⟩, ⟨(some 11), (.mv (.t 13)), 0, none⟩] none) (.cond (.t 11) (.seq (.reg [⟨(some 4), (.mv (.c (.int .i64 1))), 0, none⟩] none) .ret) .skip))))) (.seq (.reg [⟨(some 4), (.mv (.c (.int .i64 0))), 0, none⟩] none) .ret)))
def rs_idivi : List IRes := [(.tmp 4)]
abbrev nt_idivi : Nat := 14
def T_idivi : Tab := tab [(118, .pure (preT (fun x : List Int × Unit => decide (x.1.length <= 9223372036854775807))) (valT (fun x : List Int × Unit => x.1.all inR)))]
theorem idivi_s {G : PV -> Prop} (a b : Int) (h : ∃ y0 : Bool, AV.pv (valT (fun (x : List Int × Unit) => List.all x.1 inR) [(.sl 1 false [(.int .i64 a), (.int .i64 b)])]) = AV.pv (enc y0) ∧ (if (!y0) = true then G ((.int .i64 2)) else (if (b == 0) = true then G ((.int .i64 1)) else (G ((.int .i64 0)))))) : Gets T_idivi 0 (endP' rs_idivi G) ic_idivi [] (st0 14 [enc a, enc b]) := Gets.tp (.lit (.lit (.lit (.abs (Bool) (fun YY => AV.pv (enc YY)) (.ask (.nil) (.lit (.ask (.nil) (.nil)))))))) h (by kernel_rfl)
def ic_idiv : IC := (.seq (.reg [⟨(some 4), (.mv (.c (.int .i64 0))), 0, none⟩, ⟨(some 5), (.mv (.c (.int .i64 0))), 0, none⟩] none) (.seq (.seq (.reg [⟨(some 9), (.mv (.t 0)), 0, none⟩, ⟨(some 10), (.mv (.t 1)), 0, none⟩, ⟨(some 11), (.call (.c (.fn 120)) [(.t 9), (.t 10)]), 0, none⟩, ⟨(some 6), (.mv (.t 11)), 2, none⟩] none) (.seq (.reg [⟨(some 12), (.mv (.t 6)), 0, none⟩, ⟨(some 13), (.bin .num .neq (.t 12) (.c (.int .i64 0))), 0, none⟩] none) (.cond (.t 13) (.seq (.reg [⟨(some 14), (.mv (.t 6)), 0, none⟩, ⟨(some 4), (.mv (.c (.int .i64 0))), 0, none⟩, ⟨(some 5), (.mv (.t 14)), 0, none⟩] none) .ret) .skip))) (.seq (.reg [⟨(some 16), (.mv (.t 0)), 0, none⟩, ⟨(some 17), (.mv (.t 1)), 0, none⟩, ⟨(some 18), (.call (.c (.fn 121)) [(.t 16), (.t 17)]), 0, none⟩, ⟨(some 15), (.mv (.t 18)), 2, none⟩, ⟨(some 19), (.extract (.t 15) 0), 2, none⟩, ⟨(some 20), (.extract (.t 15) 1), 2, none⟩, ⟨(some 7), (.mv (.t 19)), 2, none⟩, ⟨(some 8), (.mv (.t 20)), 2, none⟩] none) (.seq (.reg [⟨(some 21), (.mv (.t 7)), 0, none⟩, ⟨(some 4), (.mv (.t 21)), 0, none⟩, ⟨(some 5), (.mv (.c (.int .i64 0))), 0, none⟩] none) .ret))))
def rs_idiv : List IRes := [(.tmp 4), (.tmp 5)]
abbrev nt_idiv : Nat := 22
def T_idiv : Tab := tab [(120, .pure (preT (fun _ : Int × Int × Unit => true)) (valT (fun x : Int × Int × Unit => divE x.1 x.2.1))), (121, .pure (preT (fun x : Int × Int × Unit => inR x.1 && inR x.2.1 && decide (x.2.1 ≠ 0))) (valT (fun x : Int × Int × Unit => (divQ x.1 x.2.1, divR x.1 x.2.1))))]
theorem idiv_s {G : PV -> Prop} (a b : Int) (h : ∃ y0 : Int, AV.pv (valT (fun (x : Int × Int × Unit) => divE x.1 x.2.1) [(.int .i64 a), (.int .i64 b)]) = AV.pv (enc y0) ∧ (if (y0 != 0) = true then G ((.tup [(.int .i64 0), (.int .i64 y0)])) else ((Go.Pl.preT (fun (x : Int × Int × Unit) => inR x.1 && inR x.2.1 && decide (x.2.1 ≠ 0)) [(.int .i64 a), (.int .i64 b)]) = true ∧ (∃ y1 : Int × Int, AV.pv (valT (fun (x : Int × Int × Unit) => (divQ x.1 x.2.1, divR x.1 x.2.1)) [(.int .i64 a), (.int .i64 b)]) = AV.pv (enc y1) ∧ (G ((.tup [(.int .i64 y1.1), (.int .i64 0)]))))))) : Gets T_idiv 0 (endP' rs_idiv G) ic_idiv [] (st0 22 [enc a, enc b]) := Gets.tp (.lit (.abs (Int) (fun YY => AV.pv (enc YY)) (.lit (.ask (.nil) (.req (.abs (Int × Int) (fun YY => AV.pv (enc YY)) (.nil))))))) h (by kernel_rfl)
def ic_igcds : IC := (.seq (.reg [⟨(some 2), (.mv (.c (.int .i64 0))), 0, none⟩, ⟨(some 3), (.mv (.c (.int .i64 0))), 0, none⟩] none) (.seq (.reg [⟨(some 4), (.mv (.c (.int .i64 0))), 0, none⟩] none) (.seq (.seq (.reg [⟨(some 7), (.mv (.t 0)), 0, none⟩, ⟨(some 8), (.len 1 (.t 7)), 0, none⟩, ⟨(some 9), (.mv (.c (.int .i64 0))), 0, none⟩] none) (.block 0 (.loop [9, 8, 7, 4] (.seq (.reg [⟨(some 10), (.bin .num .lss (.t 9) (.t 8)), 0, none⟩] none) (.seq (.cond (.t 10) .skip (.exit 0)) (.seq (.block 1 (.seq (.reg [⟨(some 11), (.iaddr 1 (.t 7) (.t 9)), 0, none⟩, ⟨(some 12), (.load false [(.int .i64)] (.t 11)), 0, none⟩, ⟨(some 6), (.mv (.t 12)), 0, none⟩] none) (.seq (.seq (.reg [⟨(some 13), (.mv (.t 6)), 0, none⟩, ⟨(some 14), (.bslice 3 1 1 (.int .i64 0) [(0, (.t 13))]), 0, none⟩, ⟨(some 15), (.call (.c (.fn 118)) [(.t 14)]), 1, none⟩, ⟨(some 16), (.un .not (.t 15)), 3, none⟩] none) (.cond (.t 16) (.seq (.reg [⟨(some 2), (.mv (.c (.int .i64 0))), 0, none⟩, ⟨(some 3), (.mv (.c (.int .i64 2))), 0, none⟩] none) .ret) .skip)) (.reg [⟨(some 17), (.mv (.t 4)), 0, none⟩, ⟨(some 18), (.mv (.t 6)), 0, none⟩, ⟨(some 19), (.call (.c (.fn 119)) [(.t 17), (.t 18)]), 0, none⟩, ⟨(some 4), (.mv (.t 19)), 2, none⟩] none)))) (.reg [⟨(some 20), (.bin .num .add (.t 9) (.c (.int .i64 1))), 0, none⟩, ⟨(some 9), (.mv (.t 20)), 0, none⟩] none))))))) (.seq (.reg [⟨(some 21), (.mv (.t 4)), 0, none⟩, ⟨(some 2), (.mv (.t 21)), 0, none⟩, ⟨(some 3), (.mv (.c (.int .i64 0))), 0, none⟩] none) .ret))))
def rs_igcds : List IRes := [(.tmp 2), (.tmp 3)]
abbrev nt_igcds : Nat := 22
def T_igcds : Tab := tab [(118, .pure (preT (fun x : List Int × Unit => decide (x.1.length <= 9223372036854775807))) (valT (fun x : List Int × Unit => x.1.all inR))), (119, .pure (preT (fun x : Int × Int × Unit => inR x.1 && inR x.2.1)) (valT (fun x : Int × Int × Unit => (Int.gcd x.1 x.2.1 : Int))))]
theorem igcds_s {G : PV -> Prop} (l : List Int) (h : At T_igcds 0 (endP' rs_igcds G) ic_igcds 0 22 [(4, (.pv (.int .i64 0))), (7, (.pv (.sl 1 false (List.map enc l)))), (8, (.pv (.int .i64 (↑(List.length (List.map enc l)) : Int)))), (9, (.pv (.int .i64 0)))] []) : Gets T_igcds 0 (endP' rs_igcds G) ic_igcds [] (st0 22 [enc l]) := Gets.tp (.nil) h (by kernel_rfl)
theorem igcds_h0 {G : PV -> Prop} (l : List Int) (g i : Int) (h : if (decide (i < (↑(List.length l) : Int))) = true then (decide (0 <= i) && decide (Int.toNat i < List.length (List.map enc l)) && Enc.sz Int == 1) = true ∧ (∃ y0 : Int, AV.pv (PV.rptr (PV.cells (List.getD (List.map enc l) (Int.toNat i) default))) = AV.pv (PV.rptr (PV.cells ((enc) y0))) ∧ (∃ y1 : Bool, AV.pv (valT (fun (x : List Int × Unit) => List.all x.1 inR) [(.sl 1 false [(.int .i64 (PV.asInt (List.getD (PV.cells (enc y0)) 0 default)))])]) = AV.pv (enc y1) ∧ (if (!y1) = true then G ((.tup [(.int .i64 0), (.int .i64 2)])) else ((Go.Pl.preT (fun (x : Int × Int × Unit) => inR x.1 && inR x.2.1) [(.int .i64 g), (.int .i64 (PV.asInt (List.getD (PV.cells (enc y0)) 0 default)))]) = true ∧ (∃ y2 : Int, AV.pv (valT (fun (x : Int × Int × Unit) => (↑(Int.gcd x.1 x.2.1) : Int)) [(.int .i64 g), (.int .i64 (PV.asInt (List.getD (PV.cells (enc y0)) 0 default)))]) = AV.pv (enc y2) ∧ (At T_igcds 0 (endP' rs_igcds G) ic_igcds 0 22 [(4, (.pv (.int .i64 y2))), (7, (.pv (.sl 1 false (List.map enc l)))), (8, (.pv (.int .i64 (↑(List.length l) : Int)))), (9, (.pv (.int .i64 (IntKind.wrap IntKind.i64 (i + 1)))))] [])))))) else (G ((.tup [(.int .i64 g), (.int .i64 0)])))) : At T_igcds 0 (endP' rs_igcds G) ic_igcds 0 22 [(4, .pv (.int .i64 g)), (7, .pv (enc l)), (8, .pv (.int .i64 l.length)), (9, .pv (.int .i64 i))] [] := At.tp (.lit (.ask (.req (.abs (Int) (fun YY => AV.pv (PV.rptr (PV.cells ((enc) YY)))) (.lit (.lit (.lit (.lit (.abs (Bool) (fun YY => AV.pv (enc YY)) (.ask (.nil) (.req (.abs (Int) (fun YY => AV.pv (enc YY)) (.lit (.nil)))))))))))) (.nil))) h (by kernel_rfl)
def ic_rdiv : IC := (.seq (.reg [⟨(some 4), (.mv (.c (.int .i64 0))), 0, none⟩, ⟨(some 5), (.mv (.c (.int .i64 0))), 0, none⟩] none) (.seq (.seq (.reg [⟨(some 7), (.mv (.t 0)), 0, none⟩, ⟨(some 8), (.call (.c (.fn 124)) [(.t 7)]), 0, none⟩, ⟨(some 9), (.un .not (.t 8)), 2, none⟩, ⟨(some 10), (.mv (.t 9)), 2, none⟩, ⟨(some 11), (.mv (.t 1)), 2, (some (10, false))⟩, ⟨(some 12), (.call (.c (.fn 124)) [(.t 11)]), 2, (some (10, false))⟩, ⟨(some 13), (.un .not (.t 12)), 4, (some (10, false))⟩, ⟨(some 14), (.pick (.t 10) (.c (.bool true)) (.t 13)), 4, none⟩] none) (.cond (.t 14) (.seq (.reg [⟨(some 4), (.mv (.c (.int .i64 0))), 0, none⟩, ⟨(some 5), (.mv (.c (.int .i64 2))), 0, none⟩] none) .ret) .skip)) (.seq (.seq (.reg [⟨(some 15), (.mv (.t 1)), 0, none⟩, ⟨(some 16), (.bin .num .eql (.t 15) (.c (.int .i64 0))), 0, none⟩] none) (.cond (.t 16) (.seq (.reg [⟨(some 4), (.mv (.c (.int .i64 0))), 0, none⟩, ⟨(some 5), (.mv (.c (.int .i64 1))), 0, none⟩] none) .ret) .skip)) (.seq (.reg [⟨(some 17), (.mv (.t 0)), 0, none⟩, ⟨(some 18), (.mv (.t 1)), 0, none⟩, ⟨(some 19), (.bin .num .quo (.t 17) (.t 18)), 0, none⟩, ⟨(some 6), (.mv (.t 19)), 0, none⟩] none) (.seq (.seq (.reg [⟨(some 20), (.mv (.t 0)), 0, none⟩, ⟨(some 21), (.mv (.t 1)), 0, none⟩, ⟨(some 22), (.bin .num .rem (.t 20) (.t 21)), 0, none⟩, ⟨(some 23), (.bin .num .neq (.t 22) (.c (.int .i64 0))), 0, none⟩, ⟨(some 24), (.mv (.t 23)), 0, none⟩, ⟨(some 25), (.mv (.t 0)), 0, (some (24, true))⟩, ⟨(some 26), (.bin .num .lss (.t 25) (.c (.int .i64 0))), 0, (some (24, true))⟩, ⟨(some 27), (.mv (.t 1)), 0, (some (24, true))⟩, ⟨(some 28), (.bin .num .lss (.t 27) (.c (.int .i64 0))), 0, (some (24, true))⟩, ⟨(some 29), (.bin .bool .neq (.t 26) (.t 28)), 0, (some (24, true))⟩, ⟨(some 30), (.pick (.t 24) (.t 29) (.c (.bool false))), 0, none⟩] none) (.cond (.t 30) (.reg [⟨(some 31), (.mv (.t 6)), 0, none⟩, ⟨(some 32), (.bin .num .sub (.t 31) (.c (.int .i64 1))), 0, none⟩, ⟨(some 6), (.mv (.t 32)), 0, none⟩] none) .skip)) (.seq (.reg [⟨(some 33), (.mv (.t 6)), 0, none⟩, ⟨(some 4), (.mv (.t 33)), 0, none⟩, ⟨(some 5), (.mv (.c (.int .i64 0))), 0, none⟩] none) .ret))))))
def rs_rdiv : List IRes := [(.tmp 4), (.tmp 5)]
abbrev nt_rdiv : Nat := 34
def T_rdiv : Tab := tab [(124, .pure (preT (fun _ : Int × Unit => true)) (valT (fun x : Int × Unit => inR x.1)))]
theorem rdiv_s {G : PV -> Prop} (a b : Int) (h : ∃ y0 : Bool, AV.pv (valT (fun (x : Int × Unit) => inR x.1) [(.int .i64 a)]) = AV.pv (enc y0) ∧ (if (!y0) = true then G ((.tup [(.int .i64 0), (.int .i64 2)])) else (∃ y1 : Bool, AV.pv (valT (fun (x : Int × Unit) => inR x.1) [(.int .i64 b)]) = AV.pv (enc y1) ∧ (if (!y1) = true then G ((.tup [(.int .i64 0), (.int .i64 2)])) else (if (b == 0) = true then G ((.tup [(.int .i64 0), (.int .i64 1)])) else ((b != 0) = true ∧ ((b != 0) = true ∧ (if (Int.tmod a b != 0) = true then if (!decide (a < 0) == decide (b < 0)) = true then G ((.tup [(.int .i64 (IntKind.wrap IntKind.i64 (IntKind.wrap IntKind.i64 (Int.tdiv a b) - 1))), (.int .i64 0)])) else (G ((.tup [(.int .i64 (IntKind.wrap IntKind.i64 (Int.tdiv a b))), (.int .i64 0)]))) else (G ((.tup [(.int .i64 (IntKind.wrap IntKind.i64 (Int.tdiv a b))), (.int .i64 0)]))))))))))) : Gets T_rdiv 0 (endP' rs_rdiv G) ic_rdiv [] (st0 34 [enc a, enc b]) := Gets.tp (.lit (.abs (Bool) (fun YY => AV.pv (enc YY)) (.ask (.lit (.lit (.lit (.lit (.nil))))) (.lit (.lit (.abs (Bool) (fun YY => AV.pv (enc YY)) (.lit (.lit (.ask (.nil) (.lit (.ask (.nil) (.req (.req (.lit (.ask (.lit (.lit (.lit (.lit (.lit (.lit (.lit (.lit (.ask (.lit (.nil)) (.nil)))))))))) (.lit (.lit (.lit (.lit (.lit (.lit (.nil)))))))))))))))))))))) h (by kernel_rfl)
def ic_rgcd : IC := (.seq (.reg [⟨(some 4), (.mv (.c (.int .i64 0))), 0, none⟩, ⟨(some 5), (.mv (.c (.int .i64 0))), 0, none⟩] none) (.seq (.seq (.reg [⟨(some 6), (.mv (.t 0)), 0, none⟩, ⟨(some 7), (.call (.c (.fn 124)) [(.t 6)]), 0, none⟩, ⟨(some 8), (.un .not (.t 7)), 2, none⟩, ⟨(some 9), (.mv (.t 8)), 2, none⟩, ⟨(some 10), (.mv (.t 1)), 2, (some (9, false))⟩, ⟨(some 11), (.call (.c (.fn 124)) [(.t 10)]), 2, (some (9, false))⟩, ⟨(some 12), (.un .not (.t 11)), 4, (some (9, false))⟩, ⟨(some 13), (.pick (.t 9) (.c (.bool true)) (.t 12)), 4, none⟩] none) (.cond (.t 13) (.seq (.reg [⟨(some 4), (.mv (.c (.int .i64 0))), 0, none⟩, ⟨(some 5), (.mv (.c (.int .i64 2))), 0, none⟩] none) .ret) .skip)) (.seq (.reg [⟨(some 14), (.mv (.t 0)), 0, none⟩, ⟨(some 15), (.call (.c (.fn 125)) [(.t 14)]), 0, none⟩, ⟨(some 16), (.mv (.t 1)), 2, none⟩, ⟨(some 17), (.call (.c (.fn 125)) [(.t 16)]), 2, none⟩, ⟨(some 0), (.mv (.t 15)), 4, none⟩, ⟨(some 1), (.mv (.t 17)), 4, none⟩] none) (.seq (.block 0 (.loop [1, 0] (.seq (.seq (.reg [⟨(some 18), (.mv (.t 1)), 0, none⟩, ⟨(some 19), (.bin .num .gtr (.t 18) (.c (.int .i64 0))), 0, none⟩] none) (.cond (.t 19) .skip (.exit 0))) (.block 1 (.reg [⟨(some 20), (.mv (.t 1)), 0, none⟩, ⟨(some 21), (.mv (.t 0)), 0, none⟩, ⟨(some 22), (.mv (.t 1)), 0, none⟩, ⟨(some 23), (.bin .num .rem (.t 21) (.t 22)), 0, none⟩, ⟨(some 0), (.mv (.t 20)), 0, none⟩, ⟨(some 1), (.mv (.t 23)), 0, none⟩] (some [[], [], [], [1, 2], [0, 1], [3, 4, 0, 1, 2]])))))) (.seq (.reg [⟨(some 24), (.mv (.t 0)), 0, none⟩, ⟨(some 4), (.mv (.t 24)), 0, none⟩, ⟨(some 5), (.mv (.c (.int .i64 0))), 0, none⟩] none) .ret)))))
def rs_rgcd : List IRes := [(.tmp 4), (.tmp 5)]
abbrev nt_rgcd : Nat := 25
def T_rgcd : Tab := tab [(124, .pure (preT (fun _ : Int × Unit => true)) (valT (fun x : Int × Unit => inR x.1))), (125, .pure (preT (fun _ : Int × Unit => true)) (valT (fun x : Int × Unit => absW x.1)))]
theorem rgcd_s {G : PV -> Prop} (a b : Int) (h : ∃ y0 : Bool, AV.pv (valT (fun (x : Int × Unit) => inR x.1) [(.int .i64 a)]) = AV.pv (enc y0) ∧ (if (!y0) = true then G ((.tup [(.int .i64 0), (.int .i64 2)])) else (∃ y1 : Bool, AV.pv (valT (fun (x : Int × Unit) => inR x.1) [(.int .i64 b)]) = AV.pv (enc y1) ∧ (if (!y1) = true then G ((.tup [(.int .i64 0), (.int .i64 2)])) else (∃ y2 : Int, AV.pv (valT (fun (x : Int × Unit) => absW x.1) [(.int .i64 a)]) = AV.pv (enc y2) ∧ (∃ y3 : Int, AV.pv (valT (fun (x : Int × Unit) => absW x.1) [(.int .i64 b)]) = AV.pv (enc y3) ∧ (At T_rgcd 0 (endP' rs_rgcd G) ic_rgcd 0 25 [(0, (.pv (.int .i64 y2))), (1, (.pv (.int .i64 y3)))] []))))))) : Gets T_rgcd 0 (endP' rs_rgcd G) ic_rgcd [] (st0 25 [enc a, enc b]) := Gets.tp (.lit (.abs (Bool) (fun YY => AV.pv (enc YY)) (.ask (.lit (.lit (.lit (.lit (.nil))))) (.lit (.lit (.abs (Bool) (fun YY => AV.pv (enc YY)) (.lit (.lit (.ask (.nil) (.lit (.abs (Int) (fun YY => AV.pv (enc YY)) (.lit (.abs (Int) (fun YY => AV.pv (enc YY)) (.nil)))))))))))))) h (by kernel_rfl)
theorem rgcd_h0 {G : PV -> Prop} (a b : Int) (x y : Int) (h : if (decide (y > 0)) = true then (y != 0) = true ∧ (At T_rgcd 0 (endP' rs_rgcd G) ic_rgcd 0 25 [(0, (.pv (.int .i64 y))), (1, (.pv (.int .i64 (Int.tmod x y))))] []) else (G ((.tup [(.int .i64 x), (.int .i64 0)])))) : At T_rgcd 0 (endP' rs_rgcd G) ic_rgcd 0 25 [(0, .pv (.int .i64 x)), (1, .pv (.int .i64 y))] [] := At.tp (.lit (.ask (.req (.nil)) (.nil))) h (by kernel_rfl)
end Go.Pl

namespace Go.Pl
open Go.RowKit
open Enc (enc dec is)
open EncL (encL decL isL)
theorem inR_iff {n : Int} : inR n = true ↔ -4611686018427387904 <= n ∧ n <= 4611686018427387904 := by simp [inR]
theorem absW_in {n : Int} (h : inR n = true) : absW n = n.natAbs := by
 rw [inR_iff] at h
 unfold absW
 split
 ·show IntKind.i64.wrap (-n) = _
  rw [wrap64 (by omega) (by omega)]; omega
 ·omega
theorem iabs_run : ∀ a : Int × Unit, true = true -> Gets T_iabs 0 (endP' rs_iabs (Fits (absW a.1))) ic_iabs [] (st0 nt_iabs (encL a)) := by
 rintro ⟨n, ⟨⟩⟩ -
 refine iabs_s n ?_
 unfold absW
 exact iteD (fun h => fitI (by rw [if_pos h])) fun h => fitI (by rw [if_neg h])
theorem rabs_run : ∀ a : Int × Unit, true = true -> Gets T_rabs 0 (endP' rs_rabs (Fits (absW a.1))) ic_rabs [] (st0 nt_rabs (encL a)) := by
 rintro ⟨n, ⟨⟩⟩ -
 refine rabs_s n ?_
 unfold absW
 exact iteD (fun h => fitI (by rw [if_pos h])) fun h => fitI (by rw [if_neg h])
theorem rin_run : ∀ a : Int × Unit, true = true -> Gets T_rin 0 (endP' rs_rin (Fits (inR a.1))) ic_rin [] (st0 nt_rin (encL a)) := by
 rintro ⟨n, ⟨⟩⟩ -
 refine rin_s n (iteD (fun h => fitB ?_) fun h => fitB ?_)
 ·simp [inR]; omega
 ·simp [inR]; omega
theorem iin_loop (l : List Int) (hl : l.length <= 9223372036854775807) : ∀ (m i : Nat), m + i = l.length -> At T_iin 0 (endP' rs_iin (Fits ((l.drop i).all inR))) ic_iin 0 18 [(5, .pv (enc l)), (6, .pv (.int .i64 l.length)), (7, .pv (.int .i64 i))] [] := by
 intro m
 induction m with
 | zero =>
  intro i hi
  exact iin_h0 l i (iteF (lt_no' (by omega)) (fitB (by rw [List.drop_of_length_le (show l.length <= i by omega)]; rfl)))
 | succ m ih =>
  intro i hi
  have hlt : i < l.length := by omega
  have h := ih (i + 1) (by omega)
  refine iin_h0 l i (iteT (lt_ok' hlt) ⟨idx_ok hlt rfl, ?_⟩)
  rw [List.drop_eq_getElem_cons hlt, List.all_cons, next (by omega)]
  refine ⟨l[i], by rw [getD_map enc hlt], ?_⟩
  refine iteD (fun h1 => ?_) fun h1 => iteD (fun h2 => ?_) fun h2 => ?_
  ·have h1 : l[i] < -4611686018427387904 := h1
   exact fitB (by rw [show inR l[i] = false by simp [inR]; omega]; rfl)
  ·have h2 : l[i] > 4611686018427387904 := h2
   exact fitB (by rw [show inR l[i] = false by simp [inR]; omega]; rfl)
  ·have h1 : ¬ l[i] < -4611686018427387904 := h1
   have h2 : ¬ l[i] > 4611686018427387904 := h2
   have : inR l[i] = true := by simp [inR]; omega
   rw [this, Bool.true_and]
   exact h
theorem iin_run : ∀ a : List Int × Unit, decide (a.1.length <= 9223372036854775807) = true -> Gets T_iin 0 (endP' rs_iin (Fits (a.1.all inR))) ic_iin [] (st0 nt_iin (encL a)) := by
 rintro ⟨l, ⟨⟩⟩ hl
 refine iin_s l ?_
 rw [List.length_map]
 exact iin_loop l (by simpa using hl) l.length 0 (by omega)
theorem tmod_nat (x y : Nat) : Int.tmod (x : Int) (y : Int) = ((x % y : Nat) : Int) := rfl
theorem gcd_step (x y : Nat) : Nat.gcd x y = Nat.gcd y (x % y) := by rw [Nat.gcd_comm x y, Nat.gcd_rec y x, Nat.gcd_comm]
theorem igcd_loop (a b : Int) : ∀ (y x : Nat), At T_igcd 0 (endP' rs_igcd (Fits (((Nat.gcd x y : Nat) : Int)))) ic_igcd 0 16 [(0, .pv (.int .i64 x)), (1, .pv (.int .i64 y))] [] := by
 intro y
 induction y using Nat.strongRecOn with
 | _ y ih =>
  intro x
  refine igcd_h0 a b x y ?_
  by_cases h0 : y = 0
  ·subst h0
   exact iteF (by simp) (fitI (by simp))
  ·refine iteT (by simp; omega) ⟨by simp; omega, ?_⟩
   rw [tmod_nat, gcd_step]
   exact ih (x % y) (Nat.mod_lt _ (by omega)) y
theorem igcd_run : ∀ a : Int × Int × Unit, (inR a.1 && inR a.2.1) = true -> Gets T_igcd 0 (endP' rs_igcd (Fits ((Int.gcd a.1 a.2.1 : Nat) : Int))) ic_igcd [] (st0 nt_igcd (encL a)) := by
 rintro ⟨a, b, ⟨⟩⟩ h
 simp only [Bool.and_eq_true] at h
 refine igcd_s a b (ex_enc (a, ()) rfl (ex_enc (b, ()) rfl ?_))
 show At T_igcd 0 _ ic_igcd 0 16 [(0, .pv (.int .i64 (absW a))), (1, .pv (.int .i64 (absW b)))] []
 rw [absW_in h.1, absW_in h.2]
 exact igcd_loop a b b.natAbs a.natAbs
theorem rgcd_loop (a b : Int) : ∀ (y x : Nat), At T_rgcd 0 (endP' rs_rgcd (Fits ((((Nat.gcd x y : Nat) : Int), (0 : Int))))) ic_rgcd 0 25 [(0, .pv (.int .i64 x)), (1, .pv (.int .i64 y))] [] := by
 intro y
 induction y using Nat.strongRecOn with
 | _ y ih =>
  intro x
  refine rgcd_h0 a b x y ?_
  by_cases h0 : y = 0
  ·subst h0
   refine iteF (by simp) ?_
   rw [Nat.gcd_zero_right]
   exact ⟨rfl, rfl⟩
  ·refine iteT (by simp; omega) ⟨by simp; omega, ?_⟩
   rw [tmod_nat, gcd_step]
   exact ih (x % y) (Nat.mod_lt _ (by omega)) y
theorem rgcd_run : ∀ a : Int × Int × Unit, (inR a.1 && inR a.2.1) = true -> Gets T_rgcd 0 (endP' rs_rgcd (Fits (gcdP a.1 a.2.1))) ic_rgcd [] (st0 nt_rgcd (encL a)) := by
 rintro ⟨a, b, ⟨⟩⟩ h
 simp only [Bool.and_eq_true] at h
 refine rgcd_s a b (ex_enc (a, ()) rfl (iteN (fun e => ?_) fun _ => ex_enc (b, ()) rfl (iteN (fun e => ?_) fun _ => ex_enc (a, ()) rfl (ex_enc (b, ()) rfl ?_))))
 ·have e : inR a = false := e
  rw [h.1] at e; cases e
 ·have e : inR b = false := e
  rw [h.2] at e; cases e
 show At T_rgcd 0 _ ic_rgcd 0 25 [(0, .pv (.int .i64 (absW a))), (1, .pv (.int .i64 (absW b)))] []
 rw [absW_in h.1, absW_in h.2]
 exact rgcd_loop a b b.natAbs a.natAbs
theorem gcd_in {a b : Int} (h : inR a = true) (k : inR b = true) : inR (Int.gcd a b : Int) = true := by
 rw [inR_iff] at *
 have h1 : Int.gcd a b <= a.natAbs ∨ a = 0 := by
  by_cases h0 : a = 0
  ·exact .inr h0
  ·exact .inl (Nat.le_of_dvd (by omega) (Int.gcd_dvd_natAbs_left a b))
 rcases h1 with h1 | rfl
 ·omega
 ·rw [Int.zero_gcd]; omega
theorem igcds_loop (l : List Int) (hl : l.length <= 10000) (hin : l.all inR = true) : ∀ (m i : Nat) (g : Int), m + i = l.length -> inR g = true -> At T_igcds 0 (endP' rs_igcds (Fits ((l.drop i).foldl (fun g n => (Int.gcd g n : Int)) g, (0 : Int)))) ic_igcds 0 22 [(4, .pv (.int .i64 g)), (7, .pv (enc l)), (8, .pv (.int .i64 l.length)), (9, .pv (.int .i64 i))] [] := by
 intro m
 induction m with
 | zero =>
  intro i g hi hg
  refine igcds_h0 l g i (iteF (lt_no' (by omega)) ?_)
  rw [List.drop_of_length_le (show l.length <= i by omega)]
  exact ⟨rfl, rfl⟩
 | succ m ih =>
  intro i g hi hg
  have hlt : i < l.length := by omega
  have hn : inR l[i] = true := by rw [List.all_eq_true] at hin; exact hin _ (List.getElem_mem hlt)
  have h := ih (i + 1) (Int.gcd g l[i]) (by omega) (gcd_in hg hn)
  refine igcds_h0 l g i (iteT (lt_ok' hlt) ⟨idx_ok hlt rfl, l[i], by rw [getD_map enc hlt], ?_⟩)
  rw [List.drop_eq_getElem_cons hlt, List.foldl_cons, next (by omega)]
  refine ex_enc ([l[i]], ()) rfl (iteN (fun e => ?_) fun _ => ⟨pre_enc (g, l[i], ()) rfl (by simp [hg, hn]), ex_enc (g, l[i], ()) rfl h⟩)
  have e : ([l[i]].all inR) = false := e
  simp [hn] at e
theorem igcds_run : ∀ a : List Int × Unit, (decide (a.1.length <= 10000) && a.1.all inR) = true -> Gets T_igcds 0 (endP' rs_igcds (Fits (gcdsP a.1))) ic_igcds [] (st0 nt_igcds (encL a)) := by
 rintro ⟨l, ⟨⟩⟩ h
 simp only [Bool.and_eq_true, decide_eq_true_eq] at h
 refine igcds_s l ?_
 rw [List.length_map]
 exact igcds_loop l h.1 h.2 l.length 0 0 (by omega) rfl
theorem tmod_sign {a b : Int} (h : a.tmod b ≠ 0) : decide (a.tmod b < 0) = decide (a < 0) := by
 rcases Int.lt_or_le a 0 with h1 | h1
 ·have := Int.tmod_nonneg b (show 0 <= -a by omega)
  rw [Int.neg_tmod] at this
  rw [decide_eq_true h1, decide_eq_true (show a.tmod b < 0 by omega)]
 ·have := Int.tmod_nonneg b h1
  rw [decide_eq_false (show ¬ a < 0 by omega), decide_eq_false (show ¬ a.tmod b < 0 by omega)]
theorem idivide_run : ∀ a : Int × Int × Unit, (inR a.1 && inR a.2.1 && decide (a.2.1 ≠ 0)) = true -> Gets T_idivide 0 (endP' rs_idivide (Fits (divQ a.1 a.2.1, divR a.1 a.2.1))) ic_idivide [] (st0 nt_idivide (encL a)) := by
 rintro ⟨a, b, ⟨⟩⟩ h
 simp only [Bool.and_eq_true, decide_eq_true_eq] at h
 have hb : (b != 0) = true := by simpa using h.2
 refine idivide_s a b ⟨hb, hb, ?_⟩
 unfold divQ divR
 refine iteE (fun h1 => ?_) fun h1 => ?_
 ·rw [if_neg (by simp [h1]), if_neg (by simp [h1])]
  exact ⟨rfl, rfl⟩
 ·rw [tmod_sign h1]
  refine iteN (fun h2 => ?_) fun h2 => ?_
  ·rw [if_pos ⟨h1, by simpa using h2⟩, if_pos ⟨h1, by simpa using h2⟩]
   exact ⟨rfl, rfl⟩
  ·rw [if_neg (fun e => e.2 (by simpa using h2)), if_neg (fun e => e.2 (by simpa using h2))]
   exact ⟨rfl, rfl⟩
theorem idivi_run : ∀ a : Int × Int × Unit, true = true -> Gets T_idivi 0 (endP' rs_idivi (Fits (divE a.1 a.2.1))) ic_idivi [] (st0 nt_idivi (encL a)) := by
 rintro ⟨a, b, ⟨⟩⟩ -
 refine idivi_s a b (ex_enc ([a, b], ()) rfl (iteN (fun e => ?_) fun e => iteE (fun h => ?_) fun h => ?_))
 ·have e : ([a, b].all inR) = false := e
  refine fitI ?_
  unfold divE
  have : (inR a && inR b) = false := by simpa using e
  simp [this]
 all_goals
  have e : ([a, b].all inR) = true := e
  have : (inR a && inR b) = true := by simpa using e
  refine fitI ?_
  unfold divE
  first | rw [if_pos this, if_pos h] | rw [if_pos this, if_neg h]
theorem divE0 {a b : Int} (h : divE a b = 0) : inR a = true ∧ inR b = true ∧ b ≠ 0 := by
 unfold divE at h
 split at h
 ·rename_i h1
  simp only [Bool.and_eq_true] at h1
  split at h
  ·cases h
  ·exact ⟨h1.1, h1.2, ‹_›⟩
 ·cases h
theorem idiv_run : ∀ a : Int × Int × Unit, true = true -> Gets T_idiv 0 (endP' rs_idiv (Fits (divI a.1 a.2.1))) ic_idiv [] (st0 nt_idiv (encL a)) := by
 rintro ⟨a, b, ⟨⟩⟩ -
 refine idiv_s a b (ex_enc (a, b, ()) rfl ?_)
 show if (divE a b != 0) = true then Fits (divI a b) _ else (_ ∧ ∃ y1 : Int × Int, _ = AV.pv (enc y1) ∧ Fits (divI a b) (.tup [.int .i64 y1.1, .int .i64 0]))
 unfold divI
 by_cases h : divE a b = 0
 ·obtain ⟨h1, h2, h3⟩ := divE0 h
  refine iteF (by simp [h]) ⟨pre_enc (a, b, ()) rfl (by simp [h1, h2, h3]), ex_enc (a, b, ()) rfl ?_⟩
  rw [if_neg (by simp [h])]
  exact ⟨rfl, rfl⟩
 ·refine iteT (by simp [h]) ?_
  rw [if_pos h]
  exact ⟨rfl, rfl⟩
theorem rdiv_run : ∀ a : Int × Int × Unit, true = true -> Gets T_rdiv 0 (endP' rs_rdiv (Fits (divI a.1 a.2.1))) ic_rdiv [] (st0 nt_rdiv (encL a)) := by
 rintro ⟨a, b, ⟨⟩⟩ -
 refine rdiv_s a b (ex_enc (a, ()) rfl (iteN (fun e => ?_) fun e => ex_enc (b, ()) rfl (iteN (fun f => ?_) fun f => iteE (fun h => ?_) fun h => ?_)))
 ·have e : inR a = false := e
  have : divI a b = (0, 2) := by simp [divI, divE, e]
  rw [this]; exact ⟨rfl, rfl⟩
 ·have f : inR b = false := f
  have : divI a b = (0, 2) := by simp [divI, divE, f]
  rw [this]; exact ⟨rfl, rfl⟩
 ·have e : inR a = true := e
  have f : inR b = true := f
  have : divI a b = (0, 1) := by simp only [divI, divE, e, f, h, Bool.and_self, if_true]; rfl
  rw [this]; exact ⟨rfl, rfl⟩
 ·have e : inR a = true := e
  have f : inR b = true := f
  have : divI a b = (divQ a b, 0) := by simp [divI, divE, e, f, h]
  rw [this]
  have hb : (b != 0) = true := by simpa using h
  refine ⟨hb, hb, ?_⟩
  unfold divQ
  by_cases h1 : a.tmod b = 0
  ·refine iteF (by simp [h1]) ?_
   rw [if_neg (by simp [h1])]
   exact ⟨rfl, rfl⟩
  ·refine iteT (by simpa using h1) (iteN (fun h2 => ?_) fun h2 => ?_)
   ·rw [if_pos ⟨h1, by simpa using h2⟩]
    exact ⟨rfl, rfl⟩
   ·rw [if_neg (fun e => e.2 (by simpa using h2))]
    exact ⟨rfl, rfl⟩
end Go.Pl

namespace Go.Pl
open Go.RowKit
open Enc (enc dec is)
open EncL (encL decL isL)
set_option maxRecDepth 100000
def ic_lname : IC := (.seq (.reg [⟨(some 2), (.mv (.c (.bool false))), 0, none⟩] none) (.seq (.seq (.reg [⟨(some 7), (.mv (.t 0)), 0, none⟩, ⟨(some 8), (.call (.c (.fn 133)) [(.t 7), (.c (.str [95]))]), 0, none⟩] none) (.cond (.t 8) (.seq (.reg [⟨(some 10), (.mv (.t 0)), 0, none⟩, ⟨(some 11), (.strslc (.t 10) (some (.c (.int .i64 1))) none), 0, none⟩, ⟨(some 12), (.call (.c (.fn 151)) [(.t 11)]), 0, none⟩, ⟨(some 9), (.mv (.t 12)), 2, none⟩, ⟨(some 13), (.extract (.t 9) 0), 2, none⟩, ⟨(some 14), (.extract (.t 9) 1), 2, none⟩, ⟨(some 3), (.mv (.t 13)), 2, none⟩, ⟨(some 4), (.mv (.t 14)), 2, none⟩] none) (.seq (.reg [⟨(some 15), (.mv (.t 4)), 0, none⟩, ⟨(some 16), (.bin .ifc .eql (.t 15) (.c .nili)), 0, none⟩, ⟨(some 17), (.mv (.t 16)), 0, none⟩, ⟨(some 18), (.mv (.t 3)), 0, (some (17, true))⟩, ⟨(some 19), (.bin .num .gtr (.t 18) (.c (.int .i64 0))), 0, (some (17, true))⟩, ⟨(some 20), (.pick (.t 17) (.t 19) (.c (.bool false))), 0, none⟩, ⟨(some 21), (.mv (.t 20)), 0, none⟩, ⟨(some 22), (.mv (.t 0)), 0, (some (21, true))⟩, ⟨(some 23), (.len 0 (.t 22)), 0, (some (21, true))⟩, ⟨(some 24), (.bin .num .leq (.t 23) (.c (.int .i64 10))), 0, (some (21, true))⟩, ⟨(some 25), (.pick (.t 21) (.t 24) (.c (.bool false))), 0, none⟩, ⟨(some 26), (.mv (.t 25)), 0, none⟩, ⟨(some 27), (.mv (.t 3)), 0, (some (26, true))⟩, ⟨(some 28), (.call (.c (.fn 79)) [(.t 27)]), 0, (some (26, true))⟩, ⟨(some 29), (.mv (.t 0)), 2, (some (26, true))⟩, ⟨(some 30), (.strslc (.t 29) (some (.c (.int .i64 1))) none), 2, (some (26, true))⟩, ⟨(some 31), (.bin .num .eql (.t 28) (.t 30)), 2, (some (26, true))⟩, ⟨(some 32), (.pick (.t 26) (.t 31) (.c (.bool false))), 2, none⟩, ⟨(some 2), (.mv (.t 32)), 2, none⟩] (some [[], [0], [1, 0], [2, 1, 0], [3, 2, 1, 0], [2, 4, 1, 0, 3], [5, 2, 4, 1, 0, 3], [6, 5, 2, 4, 1, 0, 3], [7, 6, 5, 2, 4, 1, 0, 3], [8, 6, 7, 5, 2, 4, 1, 0, 3], [6, 9, 5, 2, 4, 1, 0, 3, 8, 7], [10, 6, 9, 5, 2, 4, 1, 0, 3, 8, 7], [11, 10, 6, 9, 5, 2, 4, 1, 0, 3, 8, 7], [12, 11, 10, 6, 9, 5, 2, 4, 1, 0, 3, 8, 7], [11, 10, 6, 9, 5, 2, 4, 1, 0, 3, 8, 7], [14, 11, 10, 6, 9, 5, 2, 4, 1, 0, 3, 8, 7], [13, 15, 11, 12, 10, 6, 9, 5, 2, 4, 1, 0, 3, 8, 7, 14], [11, 16, 10, 6, 9, 5, 2, 4, 1, 0, 3, 8, 7, 13, 15, 12, 14], [17, 13, 0, 1, 2, 3, 4, 5, 6, 7, 8, 9, 10, 11, 12, 14, 15, 16]])) .ret)) .skip)) (.seq (.seq (.reg [⟨(some 33), (.mv (.t 0)), 0, none⟩, ⟨(some 34), (.sbytes (.t 33)), 0, none⟩, ⟨(some 35), (.len 1 (.t 34)), 0, none⟩, ⟨(some 36), (.mv (.c (.int .i64 0))), 0, none⟩] none) (.block 0 (.loop [36, 35, 34, 0] (.seq (.reg [⟨(some 37), (.bin .num .lss (.t 36) (.t 35)), 0, none⟩] none) (.seq (.cond (.t 37) .skip (.exit 0)) (.seq (.block 1 (.seq (.reg [⟨(some 38), (.mv (.t 36)), 0, none⟩, ⟨(some 39), (.iaddr 1 (.t 34) (.t 36)), 0, none⟩, ⟨(some 40), (.load false [(.int .u8)] (.t 39)), 0, none⟩, ⟨(some 5), (.mv (.t 38)), 0, none⟩, ⟨(some 6), (.mv (.t 40)), 0, none⟩] none) (.seq (.reg [⟨(some 41), (.mv (.t 6)), 0, none⟩, ⟨(some 42), (.bin .num .lss (.t 41) (.c (.int .u8 97))), 0, none⟩, ⟨(some 43), (.mv (.t 42)), 0, none⟩, ⟨(some 44), (.mv (.t 6)), 0, (some (43, false))⟩, ⟨(some 45), (.bin .num .gtr (.t 44) (.c (.int .u8 122))), 0, (some (43, false))⟩, ⟨(some 46), (.pick (.t 43) (.c (.bool true)) (.t 45)), 0, none⟩, ⟨(some 47), (.mv (.t 46)), 0, none⟩, ⟨(some 48), (.mv (.t 5)), 0, (some (47, true))⟩, ⟨(some 49), (.bin .num .eql (.t 48) (.c (.int .i64 0))), 0, (some (47, true))⟩, ⟨(some 50), (.mv (.t 49)), 0, (some (47, true))⟩, ⟨(some 51), (.mv (.t 6)), 0, (some (50, false))⟩, ⟨(some 52), (.bin .num .lss (.t 51) (.c (.int .u8 48))), 0, (some (50, false))⟩, ⟨(some 53), (.pick (.t 50) (.c (.bool true)) (.t 52)), 0, (some (47, true))⟩, ⟨(some 54), (.mv (.t 53)), 0, (some (47, true))⟩, ⟨(some 55), (.mv (.t 6)), 0, (some (54, false))⟩, ⟨(some 56), (.bin .num .gtr (.t 55) (.c (.int .u8 57))), 0, (some (54, false))⟩, ⟨(some 57), (.pick (.t 54) (.c (.bool true)) (.t 56)), 0, (some (47, true))⟩, ⟨(some 58), (.pick (.t 47) (.t 57) (.c (.bool false))), 0, none⟩] none) (.cond (.t 58) (.seq (.reg [⟨(some 2), (.mv (.c (.bool false))), 0, none⟩] none) .ret) .skip)))) (.reg [⟨(some 59), (.bin .num .add (.t 36) (.c (.int .i64 1))), 0, none⟩, ⟨(some 36), (.mv (.t 59)), 0, none⟩] none))))))) (.seq (.reg [⟨(some 60), (.mv (.t 0)), 0, none⟩, ⟨(some 61), (.bin .num .neq (.t 60) (.c (.str []))), 0, none⟩, ⟨(some 62), (.mv (.t 61)), 0, none⟩, ⟨(some 63), (.mv (.t 0)), 0, (some (62, true))⟩, ⟨(some 64), (.len 0 (.t 63)), 0, (some (62, true))⟩, ⟨(some 65), (.bin .num .leq (.t 64) (.c (.int .i64 30))), 0, (some (62, true))⟩, ⟨(some 66), (.pick (.t 62) (.t 65) (.c (.bool false))), 0, none⟩, ⟨(some 2), (.mv (.t 66)), 0, none⟩] none) .ret))))
def rs_lname : List IRes := [(.tmp 2)]
abbrev nt_lname : Nat := 67
def T_lname : Tab := tab [(133, .pure (preT (fun _ : Str × Str × Unit => true)) (valT (fun x : Str × Str × Unit => x.2.1.s.isPrefixOf x.1.s))), (151, .pure (preT (fun x : Str × Unit => decide (x.1.s.length <= 1000000))) (valT (fun x : Str × Unit => atoiE x.1))), (79, .pure (preT (fun x : Int × Unit => decide (-9223372036854775808 <= x.1) && decide (x.1 <= 9223372036854775807))) (valT (fun x : Int × Unit => itoaS x.1)))]
theorem lname_s {G : PV -> Prop} (s : List UInt8) (h : ∃ y0 : Bool, AV.pv (valT (fun (x : Str × Str × Unit) => List.isPrefixOf (Str.s x.2.1) (Str.s x.1)) [(.str s), (.str [(95 : UInt8)])]) = AV.pv (enc y0) ∧ (if (y0) = true then (decide (0 <= 1) && true && decide (Int.toNat 1 <= List.length s) && decide (List.length s <= List.length s)) = true ∧ ((Go.Pl.preT (fun (x : Str × Unit) => decide (List.length (Str.s x.1) <= 1000000)) [(.str (List.drop (Int.toNat 1) (List.take (List.length s) s)))]) = true ∧ (∃ y1 : Int × Er, AV.pv (valT (fun (x : Str × Unit) => atoiE x.1) [(.str (List.drop (Int.toNat 1) (List.take (List.length s) s)))]) = AV.pv (enc y1) ∧ ((isIfP (enc y1.2) && Prod.fst (true, PV.bool (isNilI (enc y1.2)))) = true ∧ (if (isNilI (enc y1.2)) = true then if (decide (y1.1 > 0)) = true then if (decide ((↑(List.length s) : Int) <= 10)) = true then (Go.Pl.preT (fun (x : Int × Unit) => decide ((-9223372036854775808 : Int) <= x.1) && decide (x.1 <= 9223372036854775807)) [(.int .i64 y1.1)]) = true ∧ (∃ y2 : Str, AV.pv (valT (fun (x : Int × Unit) => itoaS x.1) [(.int .i64 y1.1)]) = AV.pv (enc y2) ∧ ((decide (0 <= 1) && true && decide (Int.toNat 1 <= List.length s) && decide (List.length s <= List.length s)) = true ∧ (G ((.bool (Str.s y2 == List.drop (Int.toNat 1) (List.take (List.length s) s))))))) else (G ((.bool false))) else (G ((.bool false))) else (G ((.bool false))))))) else (At T_lname 0 (endP' rs_lname G) ic_lname 0 67 [(0, (.pv (.str s))), (34, (.pv (.sl 1 false (bytesP s)))), (35, (.pv (.int .i64 (↑(List.length (bytesP s)) : Int)))), (36, (.pv (.int .i64 0)))] []))) : Gets T_lname 0 (endP' rs_lname G) ic_lname [] (st0 67 [.str s]) := Gets.tp (.lit (.abs (Bool) (fun YY => AV.pv (enc YY)) (.ask (.req (.req (.abs (Int × Er) (fun YY => AV.pv (enc YY)) (.req (.ask (.lit (.lit (.lit (.ask (.lit (.lit (.lit (.lit (.ask (.lit (.req (.abs (Str) (fun YY => AV.pv (enc YY)) (.lit (.lit (.req (.lit (.lit (.lit (.nil)))))))))) (.lit (.lit (.lit (.lit (.lit (.nil))))))))))) (.lit (.lit (.lit (.lit (.lit (.lit (.lit (.lit (.lit (.nil)))))))))))))) (.lit (.lit (.lit (.lit (.lit (.lit (.lit (.lit (.lit (.lit (.lit (.lit (.nil)))))))))))))))))) (.nil)))) h (by kernel_rfl)
theorem lname_h0 {G : PV -> Prop} (s : List UInt8) (i : Int) (h : if (decide (i < (↑(List.length (bytesP s)) : Int))) = true then (decide (0 <= i) && decide (Int.toNat i < List.length (bytesP s)) && 1 == 1) = true ∧ ((decide (0 + List.length [Sh.int IntKind.u8] <= List.length (PV.cells (List.getD (bytesP s) (Int.toNat i) default))) && shFit (PV.cells (List.getD (bytesP s) (Int.toNat i) default)) 0 [Sh.int IntKind.u8]) = true ∧ (if (decide (PV.asInt (List.getD (PV.cells (List.getD (bytesP s) (Int.toNat i) default)) 0 default) < 97)) = true then if (i == 0) = true then G ((.bool false)) else (if (decide (PV.asInt (List.getD (PV.cells (List.getD (bytesP s) (Int.toNat i) default)) 0 default) < 48)) = true then G ((.bool false)) else (if (decide (PV.asInt (List.getD (PV.cells (List.getD (bytesP s) (Int.toNat i) default)) 0 default) > 57)) = true then G ((.bool false)) else (At T_lname 0 (endP' rs_lname G) ic_lname 0 67 [(0, (.pv (.str s))), (34, (.pv (.sl 1 false (bytesP s)))), (35, (.pv (.int .i64 (↑(List.length (bytesP s)) : Int)))), (36, (.pv (.int .i64 (IntKind.wrap IntKind.i64 (i + 1)))))] []))) else (if (decide (PV.asInt (List.getD (PV.cells (List.getD (bytesP s) (Int.toNat i) default)) 0 default) > 122)) = true then if (i == 0) = true then G ((.bool false)) else (if (decide (PV.asInt (List.getD (PV.cells (List.getD (bytesP s) (Int.toNat i) default)) 0 default) < 48)) = true then G ((.bool false)) else (if (decide (PV.asInt (List.getD (PV.cells (List.getD (bytesP s) (Int.toNat i) default)) 0 default) > 57)) = true then G ((.bool false)) else (At T_lname 0 (endP' rs_lname G) ic_lname 0 67 [(0, (.pv (.str s))), (34, (.pv (.sl 1 false (bytesP s)))), (35, (.pv (.int .i64 (↑(List.length (bytesP s)) : Int)))), (36, (.pv (.int .i64 (IntKind.wrap IntKind.i64 (i + 1)))))] []))) else (At T_lname 0 (endP' rs_lname G) ic_lname 0 67 [(0, (.pv (.str s))), (34, (.pv (.sl 1 false (bytesP s)))), (35, (.pv (.int .i64 (↑(List.length (bytesP s)) : Int)))), (36, (.pv (.int .i64 (IntKind.wrap IntKind.i64 (i + 1)))))] [])))) else (if (!s == []) = true then G ((.bool (decide ((↑(List.length s) : Int) <= 30)))) else (G ((.bool false))))) : At T_lname 0 (endP' rs_lname G) ic_lname 0 67 [(0, .pv (.str s)), (34, .pv (.sl 1 false (bytesP s))), (35, .pv (.int .i64 (bytesP s).length)), (36, .pv (.int .i64 i))] [] := At.tp (.lit (.ask (.req (.keep (.req (.lit (.ask (.lit (.lit (.lit (.lit (.lit (.lit (.ask (.lit (.lit (.lit (.lit (.lit (.lit (.lit (.lit (.lit (.lit (.nil))))))))))) (.lit (.lit (.lit (.lit (.lit (.ask (.lit (.lit (.lit (.lit (.lit (.nil)))))) (.lit (.lit (.lit (.lit (.lit (.ask (.nil) (.lit (.nil))))))))))))))))))))) (.lit (.lit (.lit (.ask (.lit (.lit (.lit (.ask (.lit (.lit (.lit (.lit (.lit (.lit (.lit (.lit (.lit (.lit (.nil))))))))))) (.lit (.lit (.lit (.lit (.lit (.ask (.lit (.lit (.lit (.lit (.lit (.nil)))))) (.lit (.lit (.lit (.lit (.lit (.ask (.nil) (.lit (.nil)))))))))))))))))) (.lit (.lit (.lit (.lit (.lit (.lit (.lit (.lit (.nil)))))))))))))))))) (.lit (.ask (.lit (.lit (.lit (.lit (.nil))))) (.lit (.lit (.lit (.nil)))))))) h (by kernel_rfl)
def ic_lvalid : IC := (.seq (.reg [⟨(some 1), (.box 2 (.t 0)), 0, none⟩, ⟨(some 2), (.mv (.c (.bool false))), 1, none⟩] none) (.seq (.seq (.reg [⟨(some 5), (.faddr 1 (.t 1)), 0, none⟩, ⟨(some 6), (.load false [(.sl 2)] (.t 5)), 0, none⟩, ⟨(some 7), (.len 1 (.t 6)), 0, none⟩, ⟨(some 8), (.mv (.c (.int .i64 0))), 0, none⟩] none) (.block 0 (.loop [8, 7, 6, 1] (.seq (.reg [⟨(some 9), (.bin .num .lss (.t 8) (.t 7)), 0, none⟩] none) (.seq (.cond (.t 9) .skip (.exit 0)) (.seq (.block 1 (.seq (.reg [⟨(some 10), (.mv (.t 8)), 0, none⟩, ⟨(some 11), (.iaddr 2 (.t 6) (.t 8)), 0, none⟩, ⟨(some 12), (.load true [.str, (.int .i64)] (.t 11)), 0, none⟩, ⟨(some 4), (.alloc (.agg [(.str []), (.int .i64 0)])), 0, none⟩, ⟨(some 3), (.mv (.t 10)), 1, none⟩, ⟨none, (.store 2 (.t 4) (.t 12)), 1, none⟩] none) (.seq (.reg [⟨(some 13), (.faddr 0 (.t 4)), 0, none⟩, ⟨(some 14), (.load false [.str] (.t 13)), 0, none⟩, ⟨(some 15), (.call (.c (.fn 116)) [(.t 14)]), 0, none⟩, ⟨(some 16), (.un .not (.t 15)), 2, none⟩, ⟨(some 17), (.mv (.t 16)), 2, none⟩, ⟨(some 18), (.faddr 1 (.t 4)), 2, (some (17, false))⟩, ⟨(some 19), (.load false [(.int .i64)] (.t 18)), 2, (some (17, false))⟩, ⟨(some 20), (.bin .num .eql (.t 19) (.c (.int .i64 0))), 2, (some (17, false))⟩, ⟨(some 21), (.pick (.t 17) (.c (.bool true)) (.t 20)), 2, none⟩, ⟨(some 22), (.mv (.t 21)), 2, none⟩, ⟨(some 23), (.faddr 1 (.t 4)), 2, (some (22, false))⟩, ⟨(some 24), (.load false [(.int .i64)] (.t 23)), 2, (some (22, false))⟩, ⟨(some 25), (.call (.c (.fn 117)) [(.t 24)]), 2, (some (22, false))⟩, ⟨(some 26), (.un .not (.t 25)), 4, (some (22, false))⟩, ⟨(some 27), (.pick (.t 22) (.c (.bool true)) (.t 26)), 4, none⟩, ⟨(some 28), (.mv (.t 27)), 4, none⟩, ⟨(some 29), (.mv (.t 3)), 4, (some (28, false))⟩, ⟨(some 30), (.bin .num .gtr (.t 29) (.c (.int .i64 0))), 4, (some (28, false))⟩, ⟨(some 31), (.mv (.t 30)), 4, (some (28, false))⟩, ⟨(some 32), (.faddr 1 (.t 1)), 4, (some (31, true))⟩, ⟨(some 33), (.load false [(.sl 2)] (.t 32)), 4, (some (31, true))⟩, ⟨(some 34), (.mv (.t 3)), 4, (some (31, true))⟩, ⟨(some 35), (.bin .num .sub (.t 34) (.c (.int .i64 1))), 4, (some (31, true))⟩, ⟨(some 36), (.iaddr 2 (.t 33) (.t 35)), 4, (some (31, true))⟩, ⟨(some 37), (.faddr 0 (.t 36)), 4, (some (31, true))⟩, ⟨(some 38), (.load false [.str] (.t 37)), 4, (some (31, true))⟩, ⟨(some 39), (.faddr 0 (.t 4)), 4, (some (31, true))⟩, ⟨(some 40), (.load false [.str] (.t 39)), 4, (some (31, true))⟩, ⟨(some 41), (.bin .num .geq (.t 38) (.t 40)), 4, (some (31, true))⟩, ⟨(some 42), (.pick (.t 31) (.t 41) (.c (.bool false))), 4, (some (28, false))⟩, ⟨(some 43), (.pick (.t 28) (.c (.bool true)) (.t 42)), 4, none⟩] (some [[], [0], [1, 0], [2, 1, 0], [3, 2, 1, 0], [4, 3, 2, 1, 0], [5, 4, 3, 2, 1, 0], [6, 4, 5, 3, 2, 1, 0], [4, 7, 3, 2, 1, 0, 6, 5], [8, 4, 7, 3, 2, 1, 0, 6, 5], [9, 8, 4, 7, 3, 2, 1, 0, 6, 5], [10, 9, 8, 4, 7, 3, 2, 1, 0, 6, 5], [11, 9, 10, 8, 4, 7, 3, 2, 1, 0, 6, 5], [12, 9, 11, 10, 8, 4, 7, 3, 2, 1, 0, 6, 5], [9, 13, 8, 4, 7, 3, 2, 1, 0, 6, 5, 12, 11, 10], [14, 12, 9, 13, 8, 4, 7, 3, 2, 1, 0, 6, 5, 11, 10], [15, 14, 12, 9, 13, 8, 4, 7, 3, 2, 1, 0, 6, 5, 11, 10], [16, 15, 14, 12, 9, 13, 8, 4, 7, 3, 2, 1, 0, 6, 5, 11, 10], [17, 15, 16, 14, 12, 9, 13, 8, 4, 7, 3, 2, 1, 0, 6, 5, 11, 10], [18, 17, 15, 16, 14, 12, 9, 13, 8, 4, 7, 3, 2, 1, 0, 6, 5, 11, 10], [19, 18, 17, 15, 16, 14, 12, 9, 13, 8, 4, 7, 3, 2, 1, 0, 6, 5, 11, 10], [18, 17, 15, 16, 14, 12, 9, 13, 8, 4, 7, 3, 2, 1, 0, 6, 5, 11, 10], [21, 18, 17, 15, 16, 14, 12, 9, 13, 8, 4, 7, 3, 2, 1, 0, 6, 5, 11, 10], [20, 22, 18, 19, 17, 15, 16, 14, 12, 9, 13, 8, 4, 7, 3, 2, 1, 0, 6, 5, 11, 10, 21], [23, 18, 20, 22, 19, 17, 15, 16, 14, 12, 9, 13, 8, 4, 7, 3, 2, 1, 0, 6, 5, 11, 10, 21], [24, 18, 23, 20, 22, 19, 17, 15, 16, 14, 12, 9, 13, 8, 4, 7, 3, 2, 1, 0, 6, 5, 11, 10, 21], [18, 17, 15, 16, 14, 12, 9, 13, 8, 4, 7, 3, 2, 1, 0, 6, 5, 11, 10], [26, 18, 17, 15, 16, 14, 12, 9, 13, 8, 4, 7, 3, 2, 1, 0, 6, 5, 11, 10], [25, 27, 18, 24, 23, 20, 22, 19, 17, 15, 16, 14, 12, 9, 13, 8, 4, 7, 3, 2, 1, 0, 6, 5, 11, 10, 21, 26], [18, 28, 15, 17, 16, 14, 12, 9, 13, 8, 4, 7, 3, 2, 1, 0, 6, 5, 11, 10, 25, 27, 24, 23, 20, 22, 19, 21, 26], [15, 29, 14, 12, 9, 13, 8, 4, 7, 3, 2, 1, 0, 6, 5, 11, 10, 18, 28, 17, 16, 25, 27, 24, 23, 20, 22, 19, 21, 26]])) (.cond (.t 43) (.seq (.reg [⟨(some 2), (.mv (.c (.bool false))), 0, none⟩] none) .ret) .skip)))) (.reg [⟨(some 44), (.bin .num .add (.t 8) (.c (.int .i64 1))), 0, none⟩, ⟨(some 8), (.mv (.t 44)), 0, none⟩] none))))))) (.seq (.reg [⟨(some 45), (.faddr 0 (.t 1)), 0, none⟩, ⟨(some 46), (.load false [(.int .i64)] (.t 45)), 0, none⟩, ⟨(some 47), (.call (.c (.fn 117)) [(.t 46)]), 0, none⟩, ⟨(some 48), (.mv (.t 47)), 2, none⟩, ⟨(some 49), (.faddr 1 (.t 1)), 2, (some (48, true))⟩, ⟨(some 50), (.load false [(.sl 2)] (.t 49)), 2, (some (48, true))⟩, ⟨(some 51), (.len 1 (.t 50)), 2, (some (48, true))⟩, ⟨(some 52), (.bin .num .leq (.t 51) (.c (.int .i64 12))), 2, (some (48, true))⟩, ⟨(some 53), (.pick (.t 48) (.t 52) (.c (.bool false))), 2, none⟩, ⟨(some 2), (.mv (.t 53)), 2, none⟩] none) .ret)))
def rs_lvalid : List IRes := [(.tmp 2)]
abbrev nt_lvalid : Nat := 54
def T_lvalid : Tab := tab [(117, .pure (preT (fun _ : Int × Unit => true)) (valT (fun x : Int × Unit => coefIn x.1))), (116, .pure (preT (fun x : Str × Unit => decide (x.1.s.length <= 1000000))) (valT (fun x : Str × Unit => nameB x.1)))]
theorem lvalid_s {G : PV -> Prop} (l : Lin) (h : At T_lvalid 0 (endP' rs_lvalid G) ic_lvalid 0 54 [(1, (.ptr 0 0)), (6, (.pv (.sl 2 false (List.map enc l.t)))), (7, (.pv (.int .i64 (↑(List.length (List.map enc l.t)) : Int)))), (8, (.pv (.int .i64 0)))] [(.obj (.box [(.pv (.int .i64 l.k)), (.pv (.sl 2 false (List.map enc l.t)))]))]) : Gets T_lvalid 0 (endP' rs_lvalid G) ic_lvalid [] (st0 54 [enc l]) := Gets.tp (.nil) h (by kernel_rfl)
theorem lvalid_h0 {G : PV -> Prop} (l : Lin) (i : Int) (h : if (decide (i < (↑(List.length l.t) : Int))) = true then (decide (0 <= i) && decide (Int.toNat i < List.length (List.map enc l.t)) && Enc.sz Coef == 2) = true ∧ (∃ y0 : Coef, AV.pv (PV.rptr (PV.cells (List.getD (List.map enc l.t) (Int.toNat i) default))) = AV.pv (PV.rptr (PV.cells ((enc) y0))) ∧ ((Go.Pl.preT (fun (x : Str × Unit) => decide (List.length (Str.s x.1) <= 1000000)) [(.str (PV.asStr (List.getD (PV.cells (enc y0)) 0 default)))]) = true ∧ (∃ y1 : Bool, AV.pv (valT (fun (x : Str × Unit) => nameB x.1) [(.str (PV.asStr (List.getD (PV.cells (enc y0)) 0 default)))]) = AV.pv (enc y1) ∧ (if (!y1) = true then G ((.bool false)) else (if (PV.asInt (List.getD (PV.cells (enc y0)) (0 + 1) default) == 0) = true then G ((.bool false)) else (∃ y2 : Bool, AV.pv (valT (fun (x : Int × Unit) => coefIn x.1) [(.int .i64 (PV.asInt (List.getD (PV.cells (enc y0)) (0 + 1) default)))]) = AV.pv (enc y2) ∧ (if (!y2) = true then G ((.bool false)) else (if (decide (i > 0)) = true then (decide (0 <= IntKind.wrap IntKind.i64 (i - 1)) && decide (Int.toNat (IntKind.wrap IntKind.i64 (i - 1)) < List.length (List.map enc l.t)) && Enc.sz Coef == 2) = true ∧ (∃ y3 : Coef, AV.pv (PV.rptr (PV.cells (List.getD (List.map enc l.t) (Int.toNat (IntKind.wrap IntKind.i64 (i - 1))) default))) = AV.pv (PV.rptr (PV.cells ((enc) y3))) ∧ (if (!Op.bytesLess (PV.asStr (List.getD (List.drop 0 (PV.cells (enc y3))) 0 default)) (PV.asStr (List.getD (PV.cells (enc y0)) 0 default))) = true then G ((.bool false)) else (At T_lvalid 0 (endP' rs_lvalid G) ic_lvalid 0 54 [(1, (.ptr 0 0)), (6, (.pv (.sl 2 false (List.map enc l.t)))), (7, (.pv (.int .i64 (↑(List.length l.t) : Int)))), (8, (.pv (.int .i64 (IntKind.wrap IntKind.i64 (i + 1)))))] [(.obj (.box [(.pv (.int .i64 l.k)), (.pv (.sl 2 false (List.map enc l.t)))]))]))) else (At T_lvalid 0 (endP' rs_lvalid G) ic_lvalid 0 54 [(1, (.ptr 0 0)), (6, (.pv (.sl 2 false (List.map enc l.t)))), (7, (.pv (.int .i64 (↑(List.length l.t) : Int)))), (8, (.pv (.int .i64 (IntKind.wrap IntKind.i64 (i + 1)))))] [(.obj (.box [(.pv (.int .i64 l.k)), (.pv (.sl 2 false (List.map enc l.t)))]))]))))))))) else (∃ y4 : Bool, AV.pv (valT (fun (x : Int × Unit) => coefIn x.1) [(.int .i64 l.k)]) = AV.pv (enc y4) ∧ (if (y4) = true then G ((.bool (decide ((↑(List.length (List.map enc l.t)) : Int) <= 12)))) else (G ((.bool false)))))) : At T_lvalid 0 (endP' rs_lvalid G) ic_lvalid 0 54 [(1, .ptr 0 0), (6, .pv (enc l.t)), (7, .pv (.int .i64 l.t.length)), (8, .pv (.int .i64 i))] [.obj (.box [.pv (.int .i64 l.k), .pv (enc l.t)])] := At.tp (.lit (.ask (.req (.abs (Coef) (fun YY => AV.pv (PV.rptr (PV.cells ((enc) YY)))) (.lit (.req (.abs (Bool) (fun YY => AV.pv (enc YY)) (.ask (.lit (.lit (.lit (.lit (.lit (.lit (.lit (.lit (.lit (.lit (.lit (.lit (.lit (.lit (.nil))))))))))))))) (.lit (.lit (.lit (.lit (.ask (.lit (.lit (.lit (.lit (.lit (.lit (.lit (.lit (.lit (.lit (.nil))))))))))) (.lit (.lit (.lit (.abs (Bool) (fun YY => AV.pv (enc YY)) (.lit (.lit (.ask (.lit (.lit (.lit (.lit (.lit (.nil)))))) (.lit (.lit (.lit (.ask (.lit (.lit (.lit (.lit (.lit (.req (.abs (Coef) (fun YY => AV.pv (PV.rptr (PV.cells ((enc) YY)))) (.lit (.lit (.lit (.lit (.lit (.lit (.lit (.lit (.lit (.lit (.ask (.nil) (.lit (.nil)))))))))))))))))))) (.lit (.lit (.lit (.lit (.lit (.lit (.lit (.lit (.lit (.lit (.lit (.lit (.lit (.lit (.nil))))))))))))))))))))))))))))))))))))) (.lit (.abs (Bool) (fun YY => AV.pv (enc YY)) (.ask (.lit (.lit (.lit (.lit (.lit (.nil)))))) (.lit (.lit (.lit (.lit (.nil)))))))))) h (by kernel_rfl)
def ic_lof : IC := ic_rof
def rs_lof : List IRes := [(.cell true 2 2)]
abbrev nt_lof : Nat := 5
def T_lof : Tab := tab []
theorem lof_s {G : PV -> Prop} (n : Int) (h : G ((.agg [(.int .i64 n), (.sl 0 true [])]))) : Gets T_lof 0 (endP' rs_lof G) ic_lof [] (st0 5 [enc n]) := Gets.tp (.nil) h (by kernel_rfl)
def ic_bare : IC := (.seq (.reg [⟨(some 3), (.box 5 (.t 0)), 0, none⟩, ⟨(some 6), (.mv (.c (.bool false))), 1, none⟩] none) (.seq (.seq (.reg [⟨(some 7), (.faddr 4 (.t 3)), 0, none⟩, ⟨(some 8), (.load false [(.sl 5)] (.t 7)), 0, none⟩, ⟨(some 9), (.len 1 (.t 8)), 0, none⟩, ⟨(some 10), (.mv (.t 1)), 0, none⟩, ⟨(some 11), (.bin .num .neq (.t 9) (.t 10)), 0, none⟩] none) (.cond (.t 11) (.seq (.reg [⟨(some 6), (.mv (.c (.bool false))), 0, none⟩] none) .ret) .skip)) (.seq (.seq (.reg [⟨(some 12), (.mv (.t 2)), 0, none⟩] none) (.cond (.t 12) (.seq (.reg [⟨(some 13), (.faddr 2 (.t 3)), 0, none⟩, ⟨(some 14), (.faddr 1 (.t 13)), 0, none⟩, ⟨(some 15), (.load false [(.sl 2)] (.t 14)), 0, none⟩, ⟨(some 16), (.len 1 (.t 15)), 0, none⟩, ⟨(some 17), (.bin .num .eql (.t 16) (.c (.int .i64 0))), 0, none⟩, ⟨(some 18), (.mv (.t 17)), 0, none⟩, ⟨(some 19), (.faddr 2 (.t 3)), 0, (some (18, true))⟩, ⟨(some 20), (.faddr 0 (.t 19)), 0, (some (18, true))⟩, ⟨(some 21), (.load false [(.int .i64)] (.t 20)), 0, (some (18, true))⟩, ⟨(some 22), (.bin .num .eql (.t 21) (.c (.int .i64 0))), 0, (some (18, true))⟩, ⟨(some 23), (.pick (.t 18) (.t 22) (.c (.bool false))), 0, none⟩, ⟨(some 6), (.mv (.t 23)), 0, none⟩] none) .ret) .skip)) (.seq (.reg [⟨(some 24), (.faddr 1 (.t 3)), 0, none⟩, ⟨(some 25), (.load false [(.sl 1)] (.t 24)), 0, none⟩, ⟨(some 26), (.len 1 (.t 25)), 0, none⟩, ⟨(some 27), (.bin .num .eql (.t 26) (.c (.int .i64 0))), 0, none⟩, ⟨(some 6), (.mv (.t 27)), 0, none⟩] none) .ret))))
def rs_bare : List IRes := [(.tmp 6)]
abbrev nt_bare : Nat := 28
def T_bare : Tab := tab []
theorem bare_s {G : PV -> Prop} (k : Int) (m : List Int) (l : Lin) (ks : List Cert) (n : Int) (b : Bool) (h : if ((↑(List.length (List.map enc ks)) : Int) != n) = true then G ((.bool false)) else (if (b) = true then if ((↑(List.length (List.map enc l.t)) : Int) == 0) = true then G ((.bool (l.k == 0))) else (G ((.bool false))) else (G ((.bool ((↑(List.length (List.map enc m)) : Int) == 0)))))) : Gets T_bare 0 (endP' rs_bare G) ic_bare [] (st0 28 [.agg [enc k, enc m, enc l.k, enc l.t, enc ks], enc n, enc b]) := Gets.tp (.lit (.ask (.nil) (.ask (.lit (.ask (.lit (.lit (.lit (.lit (.lit (.nil)))))) (.lit (.lit (.lit (.lit (.nil))))))) (.lit (.nil))))) h (by kernel_rfl)
end Go.Pl

namespace Go.Pl
open Go.RowKit
open Enc (enc dec is)
open EncL (encL decL isL)
theorem bytes_at {s : List UInt8} {i : Nat} (h : i < s.length) : List.getD (bytesP s) (Int.toNat (i : Int)) default = .int .u8 (s[i].toNat : Int) := by
 simp [bytesP, List.getD, h]
theorem bytes_len (s : List UInt8) : (bytesP s).length = s.length := by simp [bytesP]
def low1 (c : UInt8) : Bool := lowB c || digB c
theorem low_iff {c : UInt8} : lowB c = true ↔ 97 <= c.toNat ∧ c.toNat <= 122 := by
 simp only [lowB, Bool.and_eq_true, decide_eq_true_eq, UInt8.le_iff_toNat_le]
 have e1 : (97 : UInt8).toNat = 97 := rfl
 have e2 : (122 : UInt8).toNat = 122 := rfl
 rw [e1, e2]
theorem low_false {c : UInt8} (h : ¬ (97 <= c.toNat ∧ c.toNat <= 122)) : lowB c = false := by
 cases e : lowB c
 ·rfl
 ·exact absurd (low_iff.1 e) h
theorem dig_false {c : UInt8} (h : ¬ (48 <= c.toNat ∧ c.toNat <= 57)) : digB c = false := by
 cases e : digB c
 ·rfl
 ·exact absurd (digB_iff.1 e) h
def bodyB (s : List UInt8) (i : Nat) : Bool := (match i with | 0 => (match s with | [] => true | c :: r => lowB c && r.all low1) | i + 1 => (s.drop (i + 1)).all low1) && (!(s == [])) && decide (s.length <= 30)
theorem body_step {s : List UInt8} {i : Nat} (h : i < s.length) (hb : lowB s[i] = true ∨ (i ≠ 0 ∧ digB s[i] = true)) : bodyB s i = bodyB s (i + 1) := by
 cases i with
 | zero =>
  cases s with
  | nil => simp at h
  | cons c r =>
   rcases hb with hb | hb
   ·have hb : lowB c = true := hb
    simp [bodyB, hb]
   ·exact absurd rfl hb.1
 | succ i =>
  unfold bodyB
  simp only
  rw [List.drop_eq_getElem_cons h, List.all_cons]
  have : low1 s[i + 1] = true := by
   rcases hb with hb | hb
   ·simp [low1, hb]
   ·simp [low1, hb.2]
  rw [this, Bool.true_and]
theorem body_stop {s : List UInt8} {i : Nat} (h : i < s.length) (hb : lowB s[i] = false ∧ (i = 0 ∨ digB s[i] = false)) : bodyB s i = false := by
 cases i with
 | zero =>
  cases s with
  | nil => simp at h
  | cons c r =>
   have hb : lowB c = false := hb.1
   simp [bodyB, hb]
 | succ i =>
  unfold bodyB
  simp only
  rw [List.drop_eq_getElem_cons h, List.all_cons]
  have : low1 s[i + 1] = false := by
   rcases hb.2 with h0 | h0
   ·cases h0
   ·simp [low1, hb.1, h0]
  rw [this]; simp
theorem lname_loop (s : List UInt8) (hs : s.length <= 1000000) : ∀ (m i : Nat), m + i = s.length -> At T_lname 0 (endP' rs_lname (Fits (bodyB s i))) ic_lname 0 67 [(0, .pv (.str s)), (34, .pv (.sl 1 false (bytesP s))), (35, .pv (.int .i64 (bytesP s).length)), (36, .pv (.int .i64 i))] [] := by
 intro m
 induction m with
 | zero =>
  intro i hi
  have e : bodyB s i = (!(s == []) && decide (s.length <= 30)) := by
   unfold bodyB
   cases i with
   | zero => cases s with
    | nil => rfl
    | cons c r => simp at hi
   | succ i => simp only; rw [List.drop_of_length_le (show s.length <= i + 1 by omega)]; simp
  rw [e]
  refine lname_h0 s i (iteF (lt_no' (by rw [bytes_len]; omega)) (iteB (fun h => fitB ?_) fun h => fitB ?_))
  ·rw [h, Bool.true_and]; exact decide_eq_decide.2 (by omega)
  ·rw [h, Bool.false_and]
 | succ m ih =>
  intro i hi
  have hlt : i < s.length := by omega
  have h := ih (i + 1) (by omega)
  refine lname_h0 s i ?_
  rw [bytes_at hlt, next (by omega)]
  have stop : (lowB s[i] = false ∧ (i = 0 ∨ digB s[i] = false)) -> Fits (bodyB s i) (.bool false) := fun hb => fitB (body_stop hlt hb).symm
  have go : (lowB s[i] = true ∨ (i ≠ 0 ∧ digB s[i] = true)) -> At T_lname 0 (endP' rs_lname (Fits (bodyB s i))) ic_lname 0 67 [(0, .pv (.str s)), (34, .pv (.sl 1 false (bytesP s))), (35, .pv (.int .i64 (bytesP s).length)), (36, .pv (.int .i64 ((i + 1 : Nat) : Int)))] [] := fun hb => by rw [body_step hlt hb]; exact h
  have rest : lowB s[i] = false -> (if ((i : Int) == 0) = true then Fits (bodyB s i) (.bool false) else if decide ((s[i].toNat : Int) < 48) = true then Fits (bodyB s i) (.bool false) else if decide ((s[i].toNat : Int) > 57) = true then Fits (bodyB s i) (.bool false) else At T_lname 0 (endP' rs_lname (Fits (bodyB s i))) ic_lname 0 67 [(0, .pv (.str s)), (34, .pv (.sl 1 false (bytesP s))), (35, .pv (.int .i64 (bytesP s).length)), (36, .pv (.int .i64 ((i + 1 : Nat) : Int)))] []) := by
   intro hl
   refine iteE (fun h0 => stop ⟨hl, .inl (by omega)⟩) fun h0 => iteD (fun h1 => stop ⟨hl, .inr (dig_false (by omega))⟩) fun h1 => iteD (fun h2 => stop ⟨hl, .inr (dig_false (by omega))⟩) fun h2 => go (.inr ⟨by omega, digB_iff.2 (by omega)⟩)
  refine iteT (lt_ok' (by rw [bytes_len]; exact hlt)) ⟨by rw [bytes_len]; simp [hlt], by rfl, ?_⟩
  refine iteD (fun h1 => rest (low_false ?_)) fun h1 => iteD (fun h2 => rest (low_false ?_)) fun h2 => go (.inl (low_iff.2 ?_))
  ·have h1 : (s[i].toNat : Int) < 97 := h1
   omega
  ·have h2 : (s[i].toNat : Int) > 122 := h2
   omega
  ·have h1 : ¬ (s[i].toNat : Int) < 97 := h1
   have h2 : ¬ (s[i].toNat : Int) > 122 := h2
   omega
theorem name_body {s : List UInt8} (h : [95].isPrefixOf s = false) : nameB ⟨s⟩ = bodyB s 0 := by
 cases s with
 | nil => rfl
 | cons c r =>
  have hc : ¬ c = 95 := by intro e; subst e; simp at h
  have e : decide ((c :: r).length <= 30) = decide (r.length <= 29) := decide_eq_decide.2 (by simp)
  unfold bodyB
  rw [e]
  simp only [nameB, if_neg hc]
  show _ = (lowB c && r.all low1 && !((c :: r) == []) && _)
  have e2 : ((c :: r) == []) = false := rfl
  rw [e2]
  simp only [Bool.not_false, Bool.and_true]
  rfl
theorem atoi_range (s : Str) : -9223372036854775808 <= (atoiE s).1 ∧ ((atoiE s).1 <= 9223372036854775807) := by
 unfold atoiE
 split
 ·rename_i v hv; exact Lib.atoiAll_bounds hv
 ·have := Lib.atoiSat_bounds s.s
  exact ⟨by show _ <= Lib.atoiSat s.s; omega, by show Lib.atoiSat s.s <= _; omega⟩
 ·exact ⟨by show (-9223372036854775808 : Int) <= 0; omega, by show (0 : Int) <= _; omega⟩
theorem lname_run : ∀ a : Str × Unit, decide (a.1.s.length <= 1000000) = true -> Gets T_lname 0 (endP' rs_lname (Fits (nameB a.1))) ic_lname [] (st0 nt_lname (encL a)) := by
 rintro ⟨⟨s⟩, ⟨⟩⟩ hl
 have hl : s.length <= 1000000 := by simpa using hl
 refine lname_s s (ex_enc (⟨s⟩, ⟨[95]⟩, ()) rfl (iteB (fun h => ?_) fun h => ?_))
 ·have h : [95].isPrefixOf s = true := h
  obtain ⟨r, rfl⟩ : ∃ r, s = 95 :: r := by
   cases s with
   | nil => simp at h
   | cons c r =>
    have : 95 = c := by simpa using h
    exact ⟨r, by rw [this]⟩
  have e1 : List.drop (Int.toNat 1) (List.take (List.length (95 :: r)) (95 :: r)) = r := by rw [List.take_of_length_le (Nat.le_refl _)]; rfl
  simp only [e1]
  refine ⟨by simp, pre_enc (⟨r⟩, ()) rfl (by simp at hl ⊢; omega), ex_enc (⟨r⟩, ()) rfl ⟨by show (isIfP (enc (atoiE ⟨r⟩).2) && true) = true; rw [if_ok]; rfl, ?_⟩⟩
  show if isNilI (enc (atoiE ⟨r⟩).2) = true then (if decide ((atoiE ⟨r⟩).1 > 0) = true then (if _ then _ else Fits (nameB ⟨95 :: r⟩) _) else Fits (nameB ⟨95 :: r⟩) _) else Fits (nameB ⟨95 :: r⟩) _
  rw [nameB_us]
  by_cases h9 : r.length <= 9
  ·rw [<- numeral r h9, decide_eq_true h9, Bool.and_true]
   refine iteB (fun h1 => iteB (fun h2 => iteT (by simp; omega) ⟨pre_enc ((atoiE ⟨r⟩).1, ()) rfl (by have := atoi_range ⟨r⟩; simp; omega), ex_enc ((atoiE ⟨r⟩).1, ()) rfl ⟨by simp, fitB ?_⟩⟩) fun h2 => fitB ?_) fun h1 => fitB ?_
   ·rw [h1, h2]; simp only [Bool.true_and, Bool.and_true]; rfl
   ·rw [h2]; simp
   ·rw [h1]; simp
  ·rw [decide_eq_false h9, Bool.and_false]
   refine iteB (fun h1 => iteB (fun h2 => iteF (by simp; omega) (fitB rfl)) fun h2 => fitB rfl) fun h1 => fitB rfl
 ·have h : [95].isPrefixOf s = false := h
  show At T_lname 0 (endP' rs_lname (Fits (nameB ⟨s⟩))) ic_lname 0 67 _ _
  rw [name_body h]
  exact lname_loop s hl s.length 0 (by omega)
theorem lvalid_loop (l : Lin) (hl : l.t.length <= 9223372036854775807) (hs : l.t.all (fun t => decide (t.v.s.length <= 1000000)) = true) : ∀ (j i : Nat), j + i = l.t.length -> At T_lvalid 0 (endP' rs_lvalid (Fits (chkT (pvS l.t i) (l.t.drop i) && (coefIn l.k && decide (l.t.length <= 12))))) ic_lvalid 0 54 [(1, .ptr 0 0), (6, .pv (enc l.t)), (7, .pv (.int .i64 l.t.length)), (8, .pv (.int .i64 i))] [.obj (.box [.pv (.int .i64 l.k), .pv (enc l.t)])] := by
 intro j
 induction j with
 | zero =>
  intro i hi
  refine lvalid_h0 l i (iteF (lt_no' (by omega)) (ex_enc (l.k, ()) rfl ?_))
  rw [List.drop_of_length_le (show l.t.length <= i by omega)]
  refine iteB (fun h => fitB ?_) fun h => fitB ?_
  ·have h : coefIn l.k = true := h
   rw [h]
   show _ = (true && (true && _))
   rw [Bool.true_and, Bool.true_and]
   exact decide_eq_decide.2 (by simp; omega)
  ·have h : coefIn l.k = false := h
   rw [h]; simp
 | succ j ih =>
  intro i hi
  have hlt : i < l.t.length := by omega
  have h := ih (i + 1) (by omega)
  have hsi : l.t[i].v.s.length <= 1000000 := by rw [List.all_eq_true] at hs; simpa using hs _ (List.getElem_mem hlt)
  refine lvalid_h0 l i ?_
  refine iteT (lt_ok' hlt) ⟨idx_ok hlt rfl, el_ex hlt ⟨pre_enc (l.t[i].v, ()) rfl (by simpa using hsi), ex_enc (l.t[i].v, ()) rfl (iteN (fun hn => ?_) fun hn => iteE (fun hc => ?_) fun hc => ex_enc (l.t[i].c, ()) rfl (iteN (fun hk => ?_) fun hk => ?_))⟩⟩
  all_goals rw [List.drop_eq_getElem_cons hlt, chk_cons]
  ·have hn : nameB l.t[i].v = false := hn
   exact fitB (by simp [hn])
  ·have hc : l.t[i].c = 0 := hc
   exact fitB (by simp [hc])
  ·have hk : coefIn l.t[i].c = false := hk
   exact fitB (by simp [hk])
  have hn : nameB l.t[i].v = true := hn
  have hk : coefIn l.t[i].c = true := hk
  have hc : l.t[i].c ≠ 0 := hc
  rw [next (by omega), hn, hk, decide_eq_true hc]
  have ep : pvS l.t (i + 1) = some l.t[i].v.s := by simp [pvS, hlt]
  rw [ep] at h
  cases i with
  | zero => exact iteF (by simp) h
  | succ i =>
   refine iteT (by simp) ?_
   rw [pred_ok (by omega)]
   refine ⟨idx_ok (by omega) rfl, el_ex (by omega) ?_⟩
   have e2 : pvS l.t (i + 1) = some l.t[i].v.s := by simp [pvS, show i < l.t.length by omega]
   rw [e2]
   refine iteN (fun hb => ?_) fun hb => ?_
   all_goals
    have hb' := (bytesLess_eq l.t[i].v.s l.t[i + 1].v.s).symm.trans hb
    simp only [hb', Bool.and_true, Bool.true_and, Bool.and_false, Bool.false_and]
   ·exact fitB rfl
   ·exact h
theorem lvalid_run : ∀ a : Lin × Unit, linSm a.1 = true -> Gets T_lvalid 0 (endP' rs_lvalid (Fits (validL a.1))) ic_lvalid [] (st0 nt_lvalid (encL a)) := by
 rintro ⟨l, ⟨⟩⟩ hl
 simp only [linSm, linOk, Bool.and_eq_true, decide_eq_true_eq] at hl
 refine lvalid_s l ?_
 show At T_lvalid 0 (endP' rs_lvalid (Fits (validL l))) ic_lvalid 0 54 _ _
 have e : validL l = (chkT (pvS l.t 0) (l.t.drop 0) && (coefIn l.k && decide (l.t.length <= 12))) := by rw [valid_eq, Bool.and_comm]; rfl
 rw [e, List.length_map]
 exact lvalid_loop l hl.1 hl.2 l.t.length 0 (by omega)
theorem lof_run : ∀ a : Int × Unit, true = true -> Gets T_lof 0 (endP' rs_lof (Fits (⟨a.1, []⟩ : Lin))) ic_lof [] (st0 nt_lof (encL a)) := by
 rintro ⟨n, ⟨⟩⟩ -
 exact lof_s n ⟨by simp, by simp⟩
theorem bare_run : ∀ a : Cert × Int × Bool × Unit, true = true -> Gets T_bare 0 (endP' rs_bare (Fits (bareB a.1 a.2.1 a.2.2.1))) ic_bare [] (st0 nt_bare (encL a)) := by
 rintro ⟨⟨k, m, l, ks⟩, n, b, ⟨⟩⟩ -
 have e : (encL ((Cert.mk k m l ks, n, b, ()) : Cert × Int × Bool × Unit) : List PV) = [PV.agg [enc k, enc m, enc l.k, enc l.t, enc ks], enc n, enc b] := by
  show [enc (Cert.mk k m l ks), enc n, enc b] = _
  rw [enc_cert]
 rw [e]
 refine bare_s k m l ks n b ?_
 simp only [bareB, List.length_map]
 by_cases h1 : (ks.length : Int) = n
 ·refine iteF (by simp [h1]) (iteB (fun h2 => ?_) fun h2 => ?_)
  ·subst h2
   by_cases h3 : l.t = []
   ·refine iteT (by simp [h3]) (fitB ?_)
    simp only [h1, h3, decide_true, Bool.true_and, List.isEmpty_nil, if_true]
    exact Bool.beq_eq_decide_eq _ _
   ·refine iteF (by simpa using h3) (fitB ?_)
    simp [h3]
  ·subst h2
   refine fitB ?_
   cases m <;> simp [h1]; omega
 ·exact iteT (by simpa using h1) (fitB (by simp [h1]))
end Go.Pl

namespace Go.Pl
open Go.RowKit
open Enc (enc dec is)
open EncL (encL decL isL)
structure LR where
 k : Int
 w : Nat
 ts : List Coef
def LR.view (r : LR) : Lin := ⟨r.k, r.ts.take r.w⟩
def LR.av (r : LR) (l : Nat) : AV := .agg [.pv (.int .i64 r.k), .row l r.ts.length 0 r.w]
def LR.ob (r : LR) : AObj := .row false 87 2 (r.ts.map enc)
def compL : Nat -> Nat -> Nat -> List Coef -> List Coef × Nat
 | 0, _, j, ts => (ts, j)
 | m + 1, i, j, ts => if (ts.getD i ⟨⟨[]⟩, 0⟩).c = 0 then compL m (i + 1) j ts else compL m (i + 1) (j + 1) (ts.set j (ts.getD i ⟨⟨[]⟩, 0⟩))
def packR (k : Int) (o : List Coef) : LR := ⟨k, (compL o.length 0 0 o).2, (compL o.length 0 0 o).1⟩
def plusR (l : Lin) (s : Str) (c : Int) : LR := packR l.k (insT s c false l.t)
def timesR (l x : Lin) (k : Int) : LR := x.t.foldl (fun o t => plusR o.view t.v (w64 (k * t.c))) ⟨w64 (l.k + w64 (k * x.k)), l.t.length, l.t⟩
theorem comp_len : ∀ (m i j : Nat) (ts : List Coef), (compL m i j ts).1.length = ts.length
 | 0, _, _, _ => rfl
 | m + 1, i, j, ts => by
  rw [compL]
  split
  ·exact comp_len m _ _ _
  ·rw [comp_len m]; simp
theorem comp_w : ∀ (m i j : Nat) (ts : List Coef), m + i = ts.length -> j <= i -> (compL m i j ts).2 <= ts.length
 | 0, i, j, ts, h, hj => by rw [compL]; show j <= _; omega
 | m + 1, i, j, ts, h, hj => by
  rw [compL]
  split
  ·exact comp_w m _ _ _ (by omega) (by omega)
  ·have := comp_w m (i + 1) (j + 1) (ts.set j (ts.getD i ⟨⟨[]⟩, 0⟩)) (by simp; omega) (by omega)
   simpa using this
theorem pack_len (k : Int) (o : List Coef) : (packR k o).ts.length = o.length := comp_len _ _ _ _
theorem pack_w (k : Int) (o : List Coef) : (packR k o).w <= o.length := comp_w _ _ _ _ (by omega) (by omega)
theorem comp_take (o : List Coef) : ∀ (m i j : Nat) (ts : List Coef), m + i = o.length -> ts.length = o.length -> j <= i -> ts.take j = (o.take i).filter (fun t => decide (t.c ≠ 0)) -> ts.drop i = o.drop i -> (compL m i j ts).1.take (compL m i j ts).2 = o.filter fun t => decide (t.c ≠ 0)
 | 0, i, j, ts, hm, hts, hji, h1, h2 => by
  rw [compL]
  show ts.take j = _
  rw [h1, List.take_of_length_le (by omega)]
 | m + 1, i, j, ts, hm, hts, hji, h1, h2 => by
  have hlt : i < o.length := by omega
  have hi' : i < ts.length := by omega
  have hj' : j < ts.length := by omega
  have ei : ts[i] = o[i] := by
   have : (ts.drop i)[0]? = (o.drop i)[0]? := by rw [h2]
   simpa [hi', hlt] using this
  have htk : (o.take (i + 1)) = o.take i ++ [o[i]] := by rw [List.take_add_one, List.getElem?_eq_getElem hlt]; rfl
  have eg : ts.getD i ⟨⟨[]⟩, 0⟩ = ts[i] := by simp [List.getD, hi']
  rw [compL, eg]
  split
  ·rename_i hz
   refine comp_take o m (i + 1) j ts (by omega) hts (by omega) ?_ ?_
   ·rw [h1, htk, List.filter_append]
    have : o[i].c = 0 := by rw [<- ei]; exact hz
    simp [this]
   ·have := congrArg (List.drop 1) h2
    simpa [List.drop_drop, Nat.add_comm] using this
  ·rename_i hz
   refine comp_take o m (i + 1) (j + 1) (ts.set j ts[i]) (by omega) (by simp [hts]) (by omega) ?_ ?_
   ·rw [htk, List.filter_append, <- h1]
    have : decide (o[i].c ≠ 0) = true := by rw [<- ei]; exact decide_eq_true hz
    simp only [List.filter_cons, this, if_true, List.filter_nil]
    rw [List.take_add_one, List.getElem?_set_self hj', List.take_set_of_le (Nat.le_refl j), ei]
    rfl
   ·rw [List.drop_set_of_lt (by omega)]
    have := congrArg (List.drop 1) h2
    simpa [List.drop_drop, Nat.add_comm] using this
theorem plusR_view (l : Lin) (s : Str) (c : Int) : (plusR l s c).view = plusL l s c := by
 show (⟨_, _⟩ : Lin) = ⟨_, _⟩
 congr 1
 exact comp_take _ _ 0 0 _ (by omega) rfl (by omega) (by simp) rfl
theorem foldR_view (k : Int) : ∀ (x : List Coef) (r : LR), (x.foldl (fun o t => plusR o.view t.v (w64 (k * t.c))) r).view = x.foldl (fun o t => plusL o t.v (w64 (k * t.c))) r.view
 | [], r => rfl
 | t :: x, r => by rw [List.foldl_cons, List.foldl_cons, foldR_view k x, plusR_view]
theorem timesR_view (l x : Lin) (k : Int) : (timesR l x k).view = timesL l x k := by
 have := foldR_view k x.t ⟨w64 (l.k + w64 (k * x.k)), l.t.length, l.t⟩
 have e : LR.view ⟨w64 (l.k + w64 (k * x.k)), l.t.length, l.t⟩ = ⟨w64 (l.k + w64 (k * x.k)), l.t⟩ := by
  show (⟨_, l.t.take l.t.length⟩ : Lin) = _
  rw [List.take_length]
 rw [e] at this
 exact this
def pre_plusF : List AV -> List AObj -> Bool
 | [.pv l, .pv (.str s), .pv (.int .i64 c)], [] => can Lin l && decide ((dec l : Lin).t.length <= 1000000)
 | _, _ => false
def newR (r : LR) (l : Nat) (os : List AObj) : AV × List AObj × List AObj := (r.av l, os, [r.ob])
def val_plusF : List AV -> List AObj -> AV × List AObj × List AObj
 | [.pv l, .pv (.str s), .pv (.int .i64 c)], _ => newR (plusR (dec l) ⟨s⟩ c) 0 []
 | _, _ => combN
def linW (k : Int) (w : Nat) (xs : List PV) : Lin := ⟨k, ((dec (PV.sl 2 false xs) : List Coef)).take w⟩
def pre_plusW : List AV -> List AObj -> Bool
 | [.agg [.pv (.int .i64 k), .row 0 q 0 w], .pv (.str s), .pv (.int .i64 c)], [.row fz ty 2 xs] => can (List Coef) (.sl 2 false xs) && xs.length == q && decide (w <= q) && decide (w <= 1000000)
 | _, _ => false
def val_plusW : List AV -> List AObj -> AV × List AObj × List AObj
 | [.agg [.pv (.int .i64 k), .row 0 q 0 w], .pv (.str s), .pv (.int .i64 c)], [.row fz ty 2 xs] => newR (plusR (linW k w xs) ⟨s⟩ c) 1 [.row true ty 2 xs]
 | _, _ => combN
def pre_times : List AV -> List AObj -> Bool
 | [.pv l, .pv x, .pv (.int .i64 k)], [] => is Lin l && can Lin x && decide ((dec l : Lin).t.length <= 500000) && decide ((dec x : Lin).t.length <= 500000)
 | [.agg [.pv (.int .i64 c), .row 0 q 0 w], .pv x, .pv (.int .i64 k)], [.row fz ty 2 xs] => can (List Coef) (.sl 2 false xs) && can Lin x && xs.length == q && decide (w <= q) && decide (w <= 500000) && decide ((dec x : Lin).t.length <= 500000)
 | _, _ => false
def pre_timesF : List AV -> List AObj -> Bool
 | [.pv l, .pv x, .pv (.int .i64 k)], [] => can Lin l && can Lin x && decide ((dec l : Lin).t.length <= 500000) && decide ((dec x : Lin).t.length <= 500000)
 | _, _ => false
def val_times : List AV -> List AObj -> AV × List AObj × List AObj
 | [.pv l, .pv x, .pv (.int .i64 k)], [] => newR (timesR (dec l) (dec x) k) 0 []
 | [.agg [.pv (.int .i64 c), .row 0 q 0 w], .pv x, .pv (.int .i64 k)], [.row fz ty 2 xs] => newR (timesR (linW c w xs) (dec x) k) 1 [.row true ty 2 xs]
 | _, _ => combN
def rstep (s : Option LR) (q : Int × Fact) : Option LR := if q.1 = 0 then s else some (timesR ((s.map LR.view).getD ⟨0, []⟩) q.2.l q.1)
def rfold (fs : List Fact) (ms : List Int) : Option LR := (ms.zip fs).foldl rstep none
def zeroL : PV := .agg [.int .i64 0, .sl 0 true []]
def outR : Option LR -> AV × List AObj × List AObj
 | none => (.tup [.pv zeroL, .pv (.bool true)], [], [])
 | some r => (.tup [r.av 0, .pv (.bool true)], [], [r.ob])
def rcombN : AV × List AObj × List AObj := (.tup [.pv zeroL, .pv (.bool false)], [], [])
end Go.Pl

namespace Go.Pl
open Go.RowKit
open Enc (enc dec is)
open EncL (encL decL isL)
set_option maxRecDepth 100000
def ic_pluso : IC := (.seq (.reg [⟨(some 3), (.box 2 (.t 0)), 0, none⟩, ⟨(some 6), (.alloc (.agg [(.int .i64 0), (.sl 0 true [])])), 1, none⟩] none) (.seq (.reg [⟨(some 13), (.faddr 0 (.t 3)), 0, none⟩, ⟨(some 14), (.load false [(.int .i64)] (.t 13)), 0, none⟩, ⟨(some 15), (.build [(.int .i64 0), (.sl 0 true [])] [(0, (1, (.t 14)))]), 0, none⟩, ⟨(some 7), (.alloc (.agg [(.int .i64 0), (.sl 0 true [])])), 0, none⟩, ⟨none, (.store 2 (.t 7) (.t 15)), 1, none⟩] none) (.seq (.reg [⟨(some 8), (.mv (.c (.bool false))), 0, none⟩] none) (.seq (.seq (.reg [⟨(some 9), (.mv (.c (.int .i64 0))), 0, none⟩] none) (.block 0 (.loop [9, 3, 8, 1, 7, 2, 6] (.seq (.seq (.reg [⟨(some 16), (.mv (.t 9)), 0, none⟩, ⟨(some 17), (.faddr 1 (.t 3)), 0, none⟩, ⟨(some 18), (.load false [(.sl 2)] (.t 17)), 0, none⟩, ⟨(some 19), (.len 1 (.t 18)), 0, none⟩, ⟨(some 20), (.bin .num .lss (.t 16) (.t 19)), 0, none⟩] none) (.cond (.t 20) .skip (.exit 0))) (.seq (.block 1 (.seq (.reg [⟨(some 23), (.faddr 1 (.t 3)), 0, none⟩, ⟨(some 24), (.load false [(.sl 2)] (.t 23)), 0, none⟩, ⟨(some 25), (.mv (.t 9)), 0, none⟩, ⟨(some 26), (.iaddr 2 (.t 24) (.t 25)), 0, none⟩, ⟨(some 27), (.load true [.str, (.int .i64)] (.t 26)), 0, none⟩, ⟨(some 10), (.alloc (.agg [(.str []), (.int .i64 0)])), 0, none⟩, ⟨none, (.store 2 (.t 10) (.t 27)), 1, none⟩] none) (.seq (.seq (.reg [⟨(some 28), (.mv (.t 8)), 0, none⟩, ⟨(some 29), (.un .not (.t 28)), 0, none⟩, ⟨(some 30), (.mv (.t 29)), 0, none⟩, ⟨(some 31), (.faddr 0 (.t 10)), 0, (some (30, true))⟩, ⟨(some 32), (.load false [.str] (.t 31)), 0, (some (30, true))⟩, ⟨(some 33), (.mv (.t 1)), 0, (some (30, true))⟩, ⟨(some 34), (.bin .num .gtr (.t 32) (.t 33)), 0, (some (30, true))⟩, ⟨(some 35), (.pick (.t 30) (.t 34) (.c (.bool false))), 0, none⟩] none) (.cond (.t 35) (.seq (.reg [⟨(some 36), (.faddr 1 (.t 7)), 0, none⟩, ⟨(some 37), (.load false [(.sl 2)] (.t 36)), 0, none⟩, ⟨(some 38), (.mv (.t 1)), 0, none⟩, ⟨(some 39), (.mv (.t 2)), 0, none⟩, ⟨(some 40), (.build [(.str []), (.int .i64 0)] [(0, (1, (.t 38))), (1, (1, (.t 39)))]), 0, none⟩, ⟨(some 41), (.bslice 87 2 1 (.agg [(.str []), (.int .i64 0)]) [(0, (.t 40))]), 0, none⟩, ⟨(some 42), (.append 87 2 24 (.t 37) (.t 41)), 1, none⟩, ⟨(some 43), (.faddr 1 (.t 7)), 2, none⟩, ⟨none, (.store 1 (.t 43) (.t 42)), 2, none⟩] none) (.reg [⟨(some 8), (.mv (.c (.bool true))), 0, none⟩] none)) .skip)) (.seq (.seq (.reg [⟨(some 44), (.faddr 0 (.t 10)), 0, none⟩, ⟨(some 45), (.load false [.str] (.t 44)), 0, none⟩, ⟨(some 46), (.mv (.t 1)), 0, none⟩, ⟨(some 47), (.bin .num .eql (.t 45) (.t 46)), 0, none⟩] none) (.cond (.t 47) (.seq (.reg [⟨(some 48), (.faddr 1 (.t 10)), 0, none⟩, ⟨(some 49), (.load false [(.int .i64)] (.t 48)), 0, none⟩, ⟨(some 50), (.mv (.t 2)), 0, none⟩, ⟨(some 51), (.bin .num .add (.t 49) (.t 50)), 0, none⟩, ⟨(some 52), (.faddr 1 (.t 10)), 0, none⟩, ⟨none, (.store 1 (.t 52) (.t 51)), 0, none⟩] none) (.reg [⟨(some 8), (.mv (.c (.bool true))), 0, none⟩] none)) .skip)) (.reg [⟨(some 53), (.faddr 1 (.t 7)), 0, none⟩, ⟨(some 54), (.load false [(.sl 2)] (.t 53)), 0, none⟩, ⟨(some 55), (.load true [.str, (.int .i64)] (.t 10)), 0, none⟩, ⟨(some 56), (.bslice 87 2 1 (.agg [(.str []), (.int .i64 0)]) [(0, (.t 55))]), 0, none⟩, ⟨(some 57), (.append 87 2 24 (.t 54) (.t 56)), 1, none⟩, ⟨(some 58), (.faddr 1 (.t 7)), 2, none⟩, ⟨none, (.store 1 (.t 58) (.t 57)), 2, none⟩] none))))) (.reg [⟨(some 21), (.mv (.t 9)), 0, none⟩, ⟨(some 22), (.bin .num .add (.t 21) (.c (.int .i64 1))), 0, none⟩, ⟨(some 9), (.mv (.t 22)), 0, none⟩] none)))))) (.seq (.seq (.reg [⟨(some 59), (.mv (.t 8)), 0, none⟩, ⟨(some 60), (.un .not (.t 59)), 0, none⟩] none) (.cond (.t 60) (.reg [⟨(some 61), (.faddr 1 (.t 7)), 0, none⟩, ⟨(some 62), (.load false [(.sl 2)] (.t 61)), 0, none⟩, ⟨(some 63), (.mv (.t 1)), 0, none⟩, ⟨(some 64), (.mv (.t 2)), 0, none⟩, ⟨(some 65), (.build [(.str []), (.int .i64 0)] [(0, (1, (.t 63))), (1, (1, (.t 64)))]), 0, none⟩, ⟨(some 66), (.bslice 87 2 1 (.agg [(.str []), (.int .i64 0)]) [(0, (.t 65))]), 0, none⟩, ⟨(some 67), (.append 87 2 24 (.t 62) (.t 66)), 1, none⟩, ⟨(some 68), (.faddr 1 (.t 7)), 2, none⟩, ⟨none, (.store 1 (.t 68) (.t 67)), 2, none⟩] none) .skip)) (.seq (.reg [⟨(some 11), (.mv (.c (.int .i64 0))), 0, none⟩] none) (.seq (.seq (.reg [⟨(some 12), (.mv (.c (.int .i64 0))), 0, none⟩] none) (.block 2 (.loop [12, 7, 11, 6] (.seq (.seq (.reg [⟨(some 69), (.mv (.t 12)), 0, none⟩, ⟨(some 70), (.faddr 1 (.t 7)), 0, none⟩, ⟨(some 71), (.load false [(.sl 2)] (.t 70)), 0, none⟩, ⟨(some 72), (.len 1 (.t 71)), 0, none⟩, ⟨(some 73), (.bin .num .lss (.t 69) (.t 72)), 0, none⟩] none) (.cond (.t 73) .skip (.exit 2))) (.seq (.block 3 (.seq (.reg [⟨(some 76), (.faddr 1 (.t 7)), 0, none⟩, ⟨(some 77), (.load false [(.sl 2)] (.t 76)), 0, none⟩, ⟨(some 78), (.mv (.t 12)), 0, none⟩, ⟨(some 79), (.iaddr 2 (.t 77) (.t 78)), 0, none⟩, ⟨(some 80), (.faddr 1 (.t 79)), 0, none⟩, ⟨(some 81), (.load false [(.int .i64)] (.t 80)), 0, none⟩, ⟨(some 82), (.bin .num .neq (.t 81) (.c (.int .i64 0))), 0, none⟩] none) (.cond (.t 82) (.seq (.reg [⟨(some 83), (.faddr 1 (.t 7)), 0, none⟩, ⟨(some 84), (.load false [(.sl 2)] (.t 83)), 0, none⟩, ⟨(some 85), (.mv (.t 11)), 0, none⟩, ⟨(some 86), (.faddr 1 (.t 7)), 0, none⟩, ⟨(some 87), (.load false [(.sl 2)] (.t 86)), 0, none⟩, ⟨(some 88), (.mv (.t 12)), 0, none⟩, ⟨(some 89), (.iaddr 2 (.t 87) (.t 88)), 0, none⟩, ⟨(some 90), (.load true [.str, (.int .i64)] (.t 89)), 0, none⟩, ⟨(some 91), (.iaddr 2 (.t 84) (.t 85)), 0, none⟩, ⟨none, (.store 2 (.t 91) (.t 90)), 0, none⟩] (some [[], [0], [], [], [3], [], [4, 5, 3], [6, 4, 5, 3], [1, 2, 0, 3, 4, 5, 6, 7], [8, 7, 0, 1, 2, 3, 4, 5, 6]])) (.reg [⟨(some 92), (.mv (.t 11)), 0, none⟩, ⟨(some 93), (.bin .num .add (.t 92) (.c (.int .i64 1))), 0, none⟩, ⟨(some 11), (.mv (.t 93)), 0, none⟩] none)) .skip))) (.reg [⟨(some 74), (.mv (.t 12)), 0, none⟩, ⟨(some 75), (.bin .num .add (.t 74) (.c (.int .i64 1))), 0, none⟩, ⟨(some 12), (.mv (.t 75)), 0, none⟩] none)))))) (.seq (.reg [⟨(some 94), (.faddr 1 (.t 7)), 0, none⟩, ⟨(some 95), (.load false [(.sl 2)] (.t 94)), 0, none⟩, ⟨(some 96), (.mv (.t 11)), 0, none⟩, ⟨(some 97), (.slc 2 (.t 95) none (some (.t 96)) none), 0, none⟩, ⟨(some 98), (.faddr 1 (.t 7)), 0, none⟩, ⟨none, (.store 1 (.t 98) (.t 97)), 0, none⟩] none) (.seq (.reg [⟨(some 99), (.load true [(.int .i64), (.sl 2)] (.t 7)), 0, none⟩, ⟨none, (.store 2 (.t 6) (.t 99)), 0, none⟩] none) .ret)))))))))
def rs_pluso : List IRes := [(.cell true 2 6)]
abbrev nt_pluso : Nat := 100
def T_pluso : Tab := tab []
theorem pluso_s {G : AV × List AObj × List AObj -> Prop} (l : Lin) (s : List UInt8) (c : Int) (h : At T_pluso 0 (endO' 0 rs_pluso G) ic_pluso 0 100 [(1, (.pv (.str s))), (2, (.pv (.int .i64 c))), (3, (.ptr 0 0)), (6, (.ptr 1 0)), (7, (.ptr 2 0)), (8, (.pv (.bool false))), (9, (.pv (.int .i64 0)))] [(.obj (.box [(.pv (.int .i64 l.k)), (.pv (.sl 2 false (List.map enc l.t)))])), (.obj (.box [(.pv (.int .i64 0)), (.pv (.sl 0 true []))])), (.obj (.box [(.pv (.int .i64 l.k)), (.pv (.sl 0 true []))]))]) : Gets T_pluso 0 (endO' 0 rs_pluso G) ic_pluso [] (st0O 100 [.pv (enc l), .pv (.str s), .pv (enc c)] []) := Gets.to (.nil) h (by kernel_rfl)
theorem pluso_h0a {G : AV × List AObj × List AObj -> Prop} (l : Lin) (s : List UInt8) (c : Int) (p : Bool) (i : Int) (h : if (decide (i < (↑(List.length (List.map enc l.t)) : Int))) = true then (decide (0 <= i) && decide (Int.toNat i < List.length (List.map enc l.t)) && Enc.sz Coef == 2) = true ∧ (∃ y0 : Coef, AV.pv (PV.rptr (PV.cells (List.getD (List.map enc l.t) (Int.toNat i) default))) = AV.pv (PV.rptr (PV.cells ((enc) y0))) ∧ (if (!p) = true then if (!(Op.bytesLess (PV.asStr (List.getD (PV.cells (enc y0)) 0 default)) s || PV.asStr (List.getD (PV.cells (enc y0)) 0 default) == s)) = true then if (PV.asStr (List.getD (PV.cells (enc y0)) 0 default) == s) = true then At T_pluso 0 (endO' 0 rs_pluso G) ic_pluso 0 100 [(1, (.pv (.str s))), (2, (.pv (.int .i64 c))), (3, (.ptr 0 0)), (6, (.ptr 1 0)), (7, (.ptr 2 0)), (8, (.pv (.bool true))), (9, (.pv (.int .i64 (IntKind.wrap IntKind.i64 (i + 1)))))] [(.obj (.box [(.pv (.int .i64 l.k)), (.pv (.sl 2 false (List.map enc l.t)))])), (.obj (.box [(.pv (.int .i64 0)), (.pv (.sl 0 true []))])), (.obj (.box [(.pv (.int .i64 l.k)), (.row 3 2 0 2)])), (.obj (.row false 87 2 [(.agg [(.str s), (.int .i64 c)]), (.agg [(.str (PV.asStr (List.getD (PV.cells (enc y0)) 0 default))), (.int .i64 (IntKind.wrap IntKind.i64 (PV.asInt (List.getD (PV.cells (enc y0)) (0 + 1) default) + c)))])]))] else (At T_pluso 0 (endO' 0 rs_pluso G) ic_pluso 0 100 [(1, (.pv (.str s))), (2, (.pv (.int .i64 c))), (3, (.ptr 0 0)), (6, (.ptr 1 0)), (7, (.ptr 2 0)), (8, (.pv (.bool true))), (9, (.pv (.int .i64 (IntKind.wrap IntKind.i64 (i + 1)))))] [(.obj (.box [(.pv (.int .i64 l.k)), (.pv (.sl 2 false (List.map enc l.t)))])), (.obj (.box [(.pv (.int .i64 0)), (.pv (.sl 0 true []))])), (.obj (.box [(.pv (.int .i64 l.k)), (.row 3 2 0 2)])), (.obj (.row false 87 2 [(.agg [(.str s), (.int .i64 c)]), (.agg [(.str (PV.asStr (List.getD (PV.cells (enc y0)) 0 default))), (.int .i64 (PV.asInt (List.getD (PV.cells (enc y0)) (0 + 1) default)))])]))]) else (if (PV.asStr (List.getD (PV.cells (enc y0)) 0 default) == s) = true then At T_pluso 0 (endO' 0 rs_pluso G) ic_pluso 0 100 [(1, (.pv (.str s))), (2, (.pv (.int .i64 c))), (3, (.ptr 0 0)), (6, (.ptr 1 0)), (7, (.ptr 2 0)), (8, (.pv (.bool true))), (9, (.pv (.int .i64 (IntKind.wrap IntKind.i64 (i + 1)))))] [(.obj (.box [(.pv (.int .i64 l.k)), (.pv (.sl 2 false (List.map enc l.t)))])), (.obj (.box [(.pv (.int .i64 0)), (.pv (.sl 0 true []))])), (.obj (.box [(.pv (.int .i64 l.k)), (.row 3 1 0 1)])), (.obj (.row false 87 2 [(.agg [(.str (PV.asStr (List.getD (PV.cells (enc y0)) 0 default))), (.int .i64 (IntKind.wrap IntKind.i64 (PV.asInt (List.getD (PV.cells (enc y0)) (0 + 1) default) + c)))])]))] else (At T_pluso 0 (endO' 0 rs_pluso G) ic_pluso 0 100 [(1, (.pv (.str s))), (2, (.pv (.int .i64 c))), (3, (.ptr 0 0)), (6, (.ptr 1 0)), (7, (.ptr 2 0)), (8, (.pv (.bool p))), (9, (.pv (.int .i64 (IntKind.wrap IntKind.i64 (i + 1)))))] [(.obj (.box [(.pv (.int .i64 l.k)), (.pv (.sl 2 false (List.map enc l.t)))])), (.obj (.box [(.pv (.int .i64 0)), (.pv (.sl 0 true []))])), (.obj (.box [(.pv (.int .i64 l.k)), (.row 3 1 0 1)])), (.obj (.row false 87 2 [(.agg [(.str (PV.asStr (List.getD (PV.cells (enc y0)) 0 default))), (.int .i64 (PV.asInt (List.getD (PV.cells (enc y0)) (0 + 1) default)))])]))])) else (if (PV.asStr (List.getD (PV.cells (enc y0)) 0 default) == s) = true then At T_pluso 0 (endO' 0 rs_pluso G) ic_pluso 0 100 [(1, (.pv (.str s))), (2, (.pv (.int .i64 c))), (3, (.ptr 0 0)), (6, (.ptr 1 0)), (7, (.ptr 2 0)), (8, (.pv (.bool true))), (9, (.pv (.int .i64 (IntKind.wrap IntKind.i64 (i + 1)))))] [(.obj (.box [(.pv (.int .i64 l.k)), (.pv (.sl 2 false (List.map enc l.t)))])), (.obj (.box [(.pv (.int .i64 0)), (.pv (.sl 0 true []))])), (.obj (.box [(.pv (.int .i64 l.k)), (.row 3 1 0 1)])), (.obj (.row false 87 2 [(.agg [(.str (PV.asStr (List.getD (PV.cells (enc y0)) 0 default))), (.int .i64 (IntKind.wrap IntKind.i64 (PV.asInt (List.getD (PV.cells (enc y0)) (0 + 1) default) + c)))])]))] else (At T_pluso 0 (endO' 0 rs_pluso G) ic_pluso 0 100 [(1, (.pv (.str s))), (2, (.pv (.int .i64 c))), (3, (.ptr 0 0)), (6, (.ptr 1 0)), (7, (.ptr 2 0)), (8, (.pv (.bool p))), (9, (.pv (.int .i64 (IntKind.wrap IntKind.i64 (i + 1)))))] [(.obj (.box [(.pv (.int .i64 l.k)), (.pv (.sl 2 false (List.map enc l.t)))])), (.obj (.box [(.pv (.int .i64 0)), (.pv (.sl 0 true []))])), (.obj (.box [(.pv (.int .i64 l.k)), (.row 3 1 0 1)])), (.obj (.row false 87 2 [(.agg [(.str (PV.asStr (List.getD (PV.cells (enc y0)) 0 default))), (.int .i64 (PV.asInt (List.getD (PV.cells (enc y0)) (0 + 1) default)))])]))])))) else (if (!p) = true then At T_pluso 0 (endO' 0 rs_pluso G) ic_pluso 1 100 [(6, (.ptr 0 0)), (7, (.ptr 1 0)), (11, (.pv (.int .i64 0))), (12, (.pv (.int .i64 0)))] [(.obj (.box [(.pv (.int .i64 0)), (.pv (.sl 0 true []))])), (.obj (.box [(.pv (.int .i64 l.k)), (.row 2 1 0 1)])), (.obj (.row false 87 2 [(.agg [(.str s), (.int .i64 c)])]))] else (At T_pluso 0 (endO' 0 rs_pluso G) ic_pluso 1 100 [(6, (.ptr 0 0)), (7, (.ptr 1 0)), (11, (.pv (.int .i64 0))), (12, (.pv (.int .i64 0)))] [(.obj (.box [(.pv (.int .i64 0)), (.pv (.sl 0 true []))])), (.obj (.box [(.pv (.int .i64 l.k)), (.pv (.sl 0 true []))]))]))) : At T_pluso 0 (endO' 0 rs_pluso G) ic_pluso 0 100 [(1, .pv (.str s)), (2, .pv (.int .i64 c)), (3, .ptr 0 0), (6, .ptr 1 0), (7, .ptr 2 0), (8, .pv (.bool p)), (9, .pv (.int .i64 i))] [.obj (.box [.pv (.int .i64 l.k), .pv (enc l.t)]), .obj (.box [.pv (.int .i64 0), .pv (.sl 0 true [])]), .obj (.box [.pv (.int .i64 l.k), .pv (.sl 0 true [])])] := At.to (.lit (.ask (.req (.abs (Coef) (fun YY => AV.pv (PV.rptr (PV.cells ((enc) YY)))) (.lit (.ask (.lit (.lit (.lit (.lit (.lit (.ask (.lit (.lit (.lit (.lit (.lit (.lit (.ask (.lit (.lit (.lit (.lit (.lit (.nil)))))) (.lit (.lit (.lit (.lit (.nil)))))))))))) (.lit (.ask (.lit (.lit (.lit (.lit (.lit (.lit (.lit (.nil)))))))) (.lit (.lit (.lit (.lit (.lit (.lit (.nil))))))))))))))) (.lit (.lit (.lit (.lit (.lit (.lit (.ask (.lit (.lit (.lit (.lit (.lit (.lit (.lit (.nil)))))))) (.lit (.lit (.lit (.lit (.lit (.lit (.nil)))))))))))))))))) (.ask (.lit (.lit (.lit (.lit (.lit (.nil)))))) (.nil)))) h (by kernel_rfl)
theorem pluso_h1r {G : AV × List AObj × List AObj -> Prop} (l : Lin) (s : List UInt8) (c : Int) (j i : Int) (q : Nat) (ts : List Coef) (h : if (decide (i < (↑(q - 0) : Int))) = true then (decide (0 <= i) && decide (0 + Int.toNat i < q) && List.length (List.map enc ts) == q) = true ∧ ((List.length (List.map enc ts) == q && decide (0 + Int.toNat i < List.length (List.map enc ts))) = true ∧ ((decide (0 + 1 + List.length [Sh.int .i64] <= List.length (PV.cells (List.getD (List.map enc ts) (0 + Int.toNat i) default))) && shFit (PV.cells (List.getD (List.map enc ts) (0 + Int.toNat i) default)) (0 + 1) [Sh.int .i64]) = true ∧ (if (PV.asInt (List.getD (PV.cells (List.getD (List.map enc ts) (0 + Int.toNat i) default)) (0 + 1) default) != 0) = true then (decide (0 <= i) && decide (0 + Int.toNat i < q) && List.length (List.map enc ts) == q) = true ∧ ((List.length (List.map enc ts) == q && decide (0 + Int.toNat i < List.length (List.map enc ts))) = true ∧ ((decide (0 + List.length [Sh.str, Sh.int .i64] <= List.length (PV.cells (List.getD (List.map enc ts) (0 + Int.toNat i) default))) && shFit (PV.cells (List.getD (List.map enc ts) (0 + Int.toNat i) default)) 0 [Sh.str, Sh.int .i64]) = true ∧ ((decide (0 <= j) && decide (0 + Int.toNat j < q) && List.length (List.map enc ts) == q) = true ∧ ((List.length (List.map enc ts) == q && decide (0 + Int.toNat j < List.length (List.map enc ts)) && List.length (PV.cells (PV.agg (shAll (PV.cells (List.getD (List.map enc ts) (0 + Int.toNat i) default)) 0 [Sh.str, Sh.int .i64]))) == 2 && decide (0 + 2 <= List.length (PV.cells (List.getD (List.map enc ts) (0 + Int.toNat j) default))) && PV.cellsOk (PV.agg (shAll (PV.cells (List.getD (List.map enc ts) (0 + Int.toNat i) default)) 0 [Sh.str, Sh.int .i64]))) = true ∧ (At T_pluso 0 (endO' 0 rs_pluso G) ic_pluso 1 100 [(6, (.ptr 0 0)), (7, (.ptr 1 0)), (11, (.pv (.int .i64 (IntKind.wrap IntKind.i64 (j + 1))))), (12, (.pv (.int .i64 (IntKind.wrap IntKind.i64 (i + 1)))))] [(.obj (.box [(.pv (.int .i64 0)), (.pv (.sl 0 true []))])), (.obj (.box [(.pv (.int .i64 l.k)), (.row 2 q 0 q)])), (.obj (.row false 87 2 (List.set (List.map enc ts) (0 + Int.toNat j) (PV.withCells (List.getD (List.map enc ts) (0 + Int.toNat j) default) (splice (PV.cells (List.getD (List.map enc ts) (0 + Int.toNat j) default)) 0 (PV.cells (PV.agg (shAll (PV.cells (List.getD (List.map enc ts) (0 + Int.toNat i) default)) 0 [Sh.str, Sh.int .i64]))))))))]))))) else (At T_pluso 0 (endO' 0 rs_pluso G) ic_pluso 1 100 [(6, (.ptr 0 0)), (7, (.ptr 1 0)), (11, (.pv (.int .i64 j))), (12, (.pv (.int .i64 (IntKind.wrap IntKind.i64 (i + 1)))))] [(.obj (.box [(.pv (.int .i64 0)), (.pv (.sl 0 true []))])), (.obj (.box [(.pv (.int .i64 l.k)), (.row 2 q 0 q)])), (.obj (.row false 87 2 (List.map enc ts)))])))) else ((true && decide (0 <= j) && decide (0 <= Int.toNat j) && decide (0 + Int.toNat j <= q) && List.length (List.map enc ts) == q) = true ∧ (G (((.agg [(.pv (.int .i64 l.k)), (.row 0 q 0 (0 + Int.toNat j))]), ([], [(.row false 87 2 (List.map enc ts))])))))) : At T_pluso 0 (endO' 0 rs_pluso G) ic_pluso 1 100 [(6, .ptr 0 0), (7, .ptr 1 0), (11, .pv (.int .i64 j)), (12, .pv (.int .i64 i))] [.obj (.box [.pv (.int .i64 0), .pv (.sl 0 true [])]), .obj (.box [.pv (.int .i64 l.k), .row 2 q 0 q]), .obj (.row false 87 2 (ts.map enc))] := At.to (.lit (.ask (.req (.keep (.req (.req (.lit (.ask (.req (.keep (.req (.req (.req (.keep (.req (.lit (.lit (.nil)))))))))) (.lit (.nil)))))))) (.req (.nil)))) h (by kernel_rfl)
theorem pluso_h0b {G : AV × List AObj × List AObj -> Prop} (l : Lin) (s : List UInt8) (c : Int) (p : Bool) (i : Int) (q : Nat) (ts : List Coef) (h : if (decide (i < (↑(List.length (List.map enc l.t)) : Int))) = true then (decide (0 <= i) && decide (Int.toNat i < List.length (List.map enc l.t)) && Enc.sz Coef == 2) = true ∧ (∃ y0 : Coef, AV.pv (PV.rptr (PV.cells (List.getD (List.map enc l.t) (Int.toNat i) default))) = AV.pv (PV.rptr (PV.cells ((enc) y0))) ∧ (if (!p) = true then if (!(Op.bytesLess (PV.asStr (List.getD (PV.cells (enc y0)) 0 default)) s || PV.asStr (List.getD (PV.cells (enc y0)) 0 default) == s)) = true then (List.length (List.map enc ts) == q && q == q && decide ((q + List.length (List.drop 0 (List.take 1 [PV.agg [PV.str s, PV.int .i64 c]]))) * 24 <= 1099511627776) && decide (q + List.length (List.drop 0 (List.take 1 [PV.agg [PV.str s, PV.int .i64 c]])) <= 1099511627776)) = true ∧ (if (PV.asStr (List.getD (PV.cells (enc y0)) 0 default) == s) = true then (List.length (List.map enc ts ++ List.drop 0 (List.take 1 [PV.agg [PV.str s, PV.int .i64 c]])) == q + List.length (List.drop 0 (List.take 1 [PV.agg [PV.str s, PV.int .i64 c]])) && q + List.length (List.drop 0 (List.take 1 [PV.agg [PV.str s, PV.int .i64 c]])) == q + List.length (List.drop 0 (List.take 1 [PV.agg [PV.str s, PV.int .i64 c]])) && decide ((q + List.length (List.drop 0 (List.take 1 [PV.agg [PV.str s, PV.int .i64 c]])) + List.length (List.drop 0 (List.take 1 [PV.agg [Sh.co Sh.str (List.getD (PV.cells (enc y0)) 0 default), PV.int .i64 (IntKind.wrap IntKind.i64 (PV.asInt (List.getD (PV.cells (enc y0)) (0 + 1) default) + c))]]))) * 24 <= 1099511627776) && decide (q + List.length (List.drop 0 (List.take 1 [PV.agg [PV.str s, PV.int .i64 c]])) + List.length (List.drop 0 (List.take 1 [PV.agg [Sh.co Sh.str (List.getD (PV.cells (enc y0)) 0 default), PV.int .i64 (IntKind.wrap IntKind.i64 (PV.asInt (List.getD (PV.cells (enc y0)) (0 + 1) default) + c))]])) <= 1099511627776)) = true ∧ (At T_pluso 0 (endO' 0 rs_pluso G) ic_pluso 0 100 [(1, (.pv (.str s))), (2, (.pv (.int .i64 c))), (3, (.ptr 0 0)), (6, (.ptr 1 0)), (7, (.ptr 2 0)), (8, (.pv (.bool true))), (9, (.pv (.int .i64 (IntKind.wrap IntKind.i64 (i + 1)))))] [(.obj (.box [(.pv (.int .i64 l.k)), (.pv (.sl 2 false (List.map enc l.t)))])), (.obj (.box [(.pv (.int .i64 0)), (.pv (.sl 0 true []))])), (.obj (.box [(.pv (.int .i64 l.k)), (.row 3 (q + List.length (List.drop 0 (List.take 1 [PV.agg [PV.str s, PV.int .i64 c]])) + List.length (List.drop 0 (List.take 1 [PV.agg [Sh.co Sh.str (List.getD (PV.cells (enc y0)) 0 default), PV.int .i64 (IntKind.wrap IntKind.i64 (PV.asInt (List.getD (PV.cells (enc y0)) (0 + 1) default) + c))]]))) 0 (q + List.length (List.drop 0 (List.take 1 [PV.agg [PV.str s, PV.int .i64 c]])) + List.length (List.drop 0 (List.take 1 [PV.agg [Sh.co Sh.str (List.getD (PV.cells (enc y0)) 0 default), PV.int .i64 (IntKind.wrap IntKind.i64 (PV.asInt (List.getD (PV.cells (enc y0)) (0 + 1) default) + c))]]))))])), (.obj (.row false 87 2 (List.map enc ts ++ List.drop 0 (List.take 1 [PV.agg [PV.str s, PV.int .i64 c]]) ++ List.drop 0 (List.take 1 [PV.agg [Sh.co Sh.str (List.getD (PV.cells (enc y0)) 0 default), PV.int .i64 (IntKind.wrap IntKind.i64 (PV.asInt (List.getD (PV.cells (enc y0)) (0 + 1) default) + c))]]))))]) else ((List.length (List.map enc ts ++ List.drop 0 (List.take 1 [PV.agg [PV.str s, PV.int .i64 c]])) == q + List.length (List.drop 0 (List.take 1 [PV.agg [PV.str s, PV.int .i64 c]])) && q + List.length (List.drop 0 (List.take 1 [PV.agg [PV.str s, PV.int .i64 c]])) == q + List.length (List.drop 0 (List.take 1 [PV.agg [PV.str s, PV.int .i64 c]])) && decide ((q + List.length (List.drop 0 (List.take 1 [PV.agg [PV.str s, PV.int .i64 c]])) + List.length (List.drop 0 (List.take 1 [PV.agg [Sh.co Sh.str (List.getD (PV.cells (enc y0)) 0 default), Sh.co (Sh.int .i64) (List.getD (PV.cells (enc y0)) (0 + 1) default)]]))) * 24 <= 1099511627776) && decide (q + List.length (List.drop 0 (List.take 1 [PV.agg [PV.str s, PV.int .i64 c]])) + List.length (List.drop 0 (List.take 1 [PV.agg [Sh.co Sh.str (List.getD (PV.cells (enc y0)) 0 default), Sh.co (Sh.int .i64) (List.getD (PV.cells (enc y0)) (0 + 1) default)]])) <= 1099511627776)) = true ∧ (At T_pluso 0 (endO' 0 rs_pluso G) ic_pluso 0 100 [(1, (.pv (.str s))), (2, (.pv (.int .i64 c))), (3, (.ptr 0 0)), (6, (.ptr 1 0)), (7, (.ptr 2 0)), (8, (.pv (.bool true))), (9, (.pv (.int .i64 (IntKind.wrap IntKind.i64 (i + 1)))))] [(.obj (.box [(.pv (.int .i64 l.k)), (.pv (.sl 2 false (List.map enc l.t)))])), (.obj (.box [(.pv (.int .i64 0)), (.pv (.sl 0 true []))])), (.obj (.box [(.pv (.int .i64 l.k)), (.row 3 (q + List.length (List.drop 0 (List.take 1 [PV.agg [PV.str s, PV.int .i64 c]])) + List.length (List.drop 0 (List.take 1 [PV.agg [Sh.co Sh.str (List.getD (PV.cells (enc y0)) 0 default), Sh.co (Sh.int .i64) (List.getD (PV.cells (enc y0)) (0 + 1) default)]]))) 0 (q + List.length (List.drop 0 (List.take 1 [PV.agg [PV.str s, PV.int .i64 c]])) + List.length (List.drop 0 (List.take 1 [PV.agg [Sh.co Sh.str (List.getD (PV.cells (enc y0)) 0 default), Sh.co (Sh.int .i64) (List.getD (PV.cells (enc y0)) (0 + 1) default)]]))))])), (.obj (.row false 87 2 (List.map enc ts ++ List.drop 0 (List.take 1 [PV.agg [PV.str s, PV.int .i64 c]]) ++ List.drop 0 (List.take 1 [PV.agg [Sh.co Sh.str (List.getD (PV.cells (enc y0)) 0 default), Sh.co (Sh.int .i64) (List.getD (PV.cells (enc y0)) (0 + 1) default)]]))))]))) else (if (PV.asStr (List.getD (PV.cells (enc y0)) 0 default) == s) = true then (List.length (List.map enc ts) == q && q == q && decide ((q + List.length (List.drop 0 (List.take 1 [PV.agg [Sh.co Sh.str (List.getD (PV.cells (enc y0)) 0 default), PV.int .i64 (IntKind.wrap IntKind.i64 (PV.asInt (List.getD (PV.cells (enc y0)) (0 + 1) default) + c))]]))) * 24 <= 1099511627776) && decide (q + List.length (List.drop 0 (List.take 1 [PV.agg [Sh.co Sh.str (List.getD (PV.cells (enc y0)) 0 default), PV.int .i64 (IntKind.wrap IntKind.i64 (PV.asInt (List.getD (PV.cells (enc y0)) (0 + 1) default) + c))]])) <= 1099511627776)) = true ∧ (At T_pluso 0 (endO' 0 rs_pluso G) ic_pluso 0 100 [(1, (.pv (.str s))), (2, (.pv (.int .i64 c))), (3, (.ptr 0 0)), (6, (.ptr 1 0)), (7, (.ptr 2 0)), (8, (.pv (.bool true))), (9, (.pv (.int .i64 (IntKind.wrap IntKind.i64 (i + 1)))))] [(.obj (.box [(.pv (.int .i64 l.k)), (.pv (.sl 2 false (List.map enc l.t)))])), (.obj (.box [(.pv (.int .i64 0)), (.pv (.sl 0 true []))])), (.obj (.box [(.pv (.int .i64 l.k)), (.row 3 (q + List.length (List.drop 0 (List.take 1 [PV.agg [Sh.co Sh.str (List.getD (PV.cells (enc y0)) 0 default), PV.int .i64 (IntKind.wrap IntKind.i64 (PV.asInt (List.getD (PV.cells (enc y0)) (0 + 1) default) + c))]]))) 0 (q + List.length (List.drop 0 (List.take 1 [PV.agg [Sh.co Sh.str (List.getD (PV.cells (enc y0)) 0 default), PV.int .i64 (IntKind.wrap IntKind.i64 (PV.asInt (List.getD (PV.cells (enc y0)) (0 + 1) default) + c))]]))))])), (.obj (.row false 87 2 (List.map enc ts ++ List.drop 0 (List.take 1 [PV.agg [Sh.co Sh.str (List.getD (PV.cells (enc y0)) 0 default), PV.int .i64 (IntKind.wrap IntKind.i64 (PV.asInt (List.getD (PV.cells (enc y0)) (0 + 1) default) + c))]]))))]) else ((List.length (List.map enc ts) == q && q == q && decide ((q + List.length (List.drop 0 (List.take 1 [PV.agg [Sh.co Sh.str (List.getD (PV.cells (enc y0)) 0 default), Sh.co (Sh.int .i64) (List.getD (PV.cells (enc y0)) (0 + 1) default)]]))) * 24 <= 1099511627776) && decide (q + List.length (List.drop 0 (List.take 1 [PV.agg [Sh.co Sh.str (List.getD (PV.cells (enc y0)) 0 default), Sh.co (Sh.int .i64) (List.getD (PV.cells (enc y0)) (0 + 1) default)]])) <= 1099511627776)) = true ∧ (At T_pluso 0 (endO' 0 rs_pluso G) ic_pluso 0 100 [(1, (.pv (.str s))), (2, (.pv (.int .i64 c))), (3, (.ptr 0 0)), (6, (.ptr 1 0)), (7, (.ptr 2 0)), (8, (.pv (.bool p))), (9, (.pv (.int .i64 (IntKind.wrap IntKind.i64 (i + 1)))))] [(.obj (.box [(.pv (.int .i64 l.k)), (.pv (.sl 2 false (List.map enc l.t)))])), (.obj (.box [(.pv (.int .i64 0)), (.pv (.sl 0 true []))])), (.obj (.box [(.pv (.int .i64 l.k)), (.row 3 (q + List.length (List.drop 0 (List.take 1 [PV.agg [Sh.co Sh.str (List.getD (PV.cells (enc y0)) 0 default), Sh.co (Sh.int .i64) (List.getD (PV.cells (enc y0)) (0 + 1) default)]]))) 0 (q + List.length (List.drop 0 (List.take 1 [PV.agg [Sh.co Sh.str (List.getD (PV.cells (enc y0)) 0 default), Sh.co (Sh.int .i64) (List.getD (PV.cells (enc y0)) (0 + 1) default)]]))))])), (.obj (.row false 87 2 (List.map enc ts ++ List.drop 0 (List.take 1 [PV.agg [Sh.co Sh.str (List.getD (PV.cells (enc y0)) 0 default), Sh.co (Sh.int .i64) (List.getD (PV.cells (enc y0)) (0 + 1) default)]]))))]))) else (if (PV.asStr (List.getD (PV.cells (enc y0)) 0 default) == s) = true then (List.length (List.map enc ts) == q && q == q && decide ((q + List.length (List.drop 0 (List.take 1 [PV.agg [Sh.co Sh.str (List.getD (PV.cells (enc y0)) 0 default), PV.int .i64 (IntKind.wrap IntKind.i64 (PV.asInt (List.getD (PV.cells (enc y0)) (0 + 1) default) + c))]]))) * 24 <= 1099511627776) && decide (q + List.length (List.drop 0 (List.take 1 [PV.agg [Sh.co Sh.str (List.getD (PV.cells (enc y0)) 0 default), PV.int .i64 (IntKind.wrap IntKind.i64 (PV.asInt (List.getD (PV.cells (enc y0)) (0 + 1) default) + c))]])) <= 1099511627776)) = true ∧ (At T_pluso 0 (endO' 0 rs_pluso G) ic_pluso 0 100 [(1, (.pv (.str s))), (2, (.pv (.int .i64 c))), (3, (.ptr 0 0)), (6, (.ptr 1 0)), (7, (.ptr 2 0)), (8, (.pv (.bool true))), (9, (.pv (.int .i64 (IntKind.wrap IntKind.i64 (i + 1)))))] [(.obj (.box [(.pv (.int .i64 l.k)), (.pv (.sl 2 false (List.map enc l.t)))])), (.obj (.box [(.pv (.int .i64 0)), (.pv (.sl 0 true []))])), (.obj (.box [(.pv (.int .i64 l.k)), (.row 3 (q + List.length (List.drop 0 (List.take 1 [PV.agg [Sh.co Sh.str (List.getD (PV.cells (enc y0)) 0 default), PV.int .i64 (IntKind.wrap IntKind.i64 (PV.asInt (List.getD (PV.cells (enc y0)) (0 + 1) default) + c))]]))) 0 (q + List.length (List.drop 0 (List.take 1 [PV.agg [Sh.co Sh.str (List.getD (PV.cells (enc y0)) 0 default), PV.int .i64 (IntKind.wrap IntKind.i64 (PV.asInt (List.getD (PV.cells (enc y0)) (0 + 1) default) + c))]]))))])), (.obj (.row false 87 2 (List.map enc ts ++ List.drop 0 (List.take 1 [PV.agg [Sh.co Sh.str (List.getD (PV.cells (enc y0)) 0 default), PV.int .i64 (IntKind.wrap IntKind.i64 (PV.asInt (List.getD (PV.cells (enc y0)) (0 + 1) default) + c))]]))))]) else ((List.length (List.map enc ts) == q && q == q && decide ((q + List.length (List.drop 0 (List.take 1 [PV.agg [Sh.co Sh.str (List.getD (PV.cells (enc y0)) 0 default), Sh.co (Sh.int .i64) (List.getD (PV.cells (enc y0)) (0 + 1) default)]]))) * 24 <= 1099511627776) && decide (q + List.length (List.drop 0 (List.take 1 [PV.agg [Sh.co Sh.str (List.getD (PV.cells (enc y0)) 0 default), Sh.co (Sh.int .i64) (List.getD (PV.cells (enc y0)) (0 + 1) default)]])) <= 1099511627776)) = true ∧ (At T_pluso 0 (endO' 0 rs_pluso G) ic_pluso 0 100 [(1, (.pv (.str s))), (2, (.pv (.int .i64 c))), (3, (.ptr 0 0)), (6, (.ptr 1 0)), (7, (.ptr 2 0)), (8, (.pv (.bool p))), (9, (.pv (.int .i64 (IntKind.wrap IntKind.i64 (i + 1)))))] [(.obj (.box [(.pv (.int .i64 l.k)), (.pv (.sl 2 false (List.map enc l.t)))])), (.obj (.box [(.pv (.int .i64 0)), (.pv (.sl 0 true []))])), (.obj (.box [(.pv (.int .i64 l.k)), (.row 3 (q + List.length (List.drop 0 (List.take 1 [PV.agg [Sh.co Sh.str (List.getD (PV.cells (enc y0)) 0 default), Sh.co (Sh.int .i64) (List.getD (PV.cells (enc y0)) (0 + 1) default)]]))) 0 (q + List.length (List.drop 0 (List.take 1 [PV.agg [Sh.co Sh.str (List.getD (PV.cells (enc y0)) 0 default), Sh.co (Sh.int .i64) (List.getD (PV.cells (enc y0)) (0 + 1) default)]]))))])), (.obj (.row false 87 2 (List.map enc ts ++ List.drop 0 (List.take 1 [PV.agg [Sh.co Sh.str (List.getD (PV.cells (enc y0)) 0 default), Sh.co (Sh.int .i64) (List.getD (PV.cells (enc y0)) (0 + 1) default)]]))))]))))) else (if (!p) = true then (List.length (List.map enc ts) == q && q == q && decide ((q + List.length (List.drop 0 (List.take 1 [PV.agg [PV.str s, PV.int .i64 c]]))) * 24 <= 1099511627776) && decide (q + List.length (List.drop 0 (List.take 1 [PV.agg [PV.str s, PV.int .i64 c]])) <= 1099511627776)) = true ∧ (At T_pluso 0 (endO' 0 rs_pluso G) ic_pluso 1 100 [(6, (.ptr 0 0)), (7, (.ptr 1 0)), (11, (.pv (.int .i64 0))), (12, (.pv (.int .i64 0)))] [(.obj (.box [(.pv (.int .i64 0)), (.pv (.sl 0 true []))])), (.obj (.box [(.pv (.int .i64 l.k)), (.row 2 (q + List.length (List.drop 0 (List.take 1 [PV.agg [PV.str s, PV.int .i64 c]]))) 0 (q + List.length (List.drop 0 (List.take 1 [PV.agg [PV.str s, PV.int .i64 c]]))))])), (.obj (.row false 87 2 (List.map enc ts ++ List.drop 0 (List.take 1 [PV.agg [PV.str s, PV.int .i64 c]]))))]) else (At T_pluso 0 (endO' 0 rs_pluso G) ic_pluso 1 100 [(6, (.ptr 0 0)), (7, (.ptr 1 0)), (11, (.pv (.int .i64 0))), (12, (.pv (.int .i64 0)))] [(.obj (.box [(.pv (.int .i64 0)), (.pv (.sl 0 true []))])), (.obj (.box [(.pv (.int .i64 l.k)), (.row 2 q 0 q)])), (.obj (.row false 87 2 (List.map enc ts)))]))) : At T_pluso 0 (endO' 0 rs_pluso G) ic_pluso 0 100 [(1, .pv (.str s)), (2, .pv (.int .i64 c)), (3, .ptr 0 0), (6, .ptr 1 0), (7, .ptr 2 0), (8, .pv (.bool p)), (9, .pv (.int .i64 i))] [.obj (.box [.pv (.int .i64 l.k), .pv (enc l.t)]), .obj (.box [.pv (.int .i64 0), .pv (.sl 0 true [])]), .obj (.box [.pv (.int .i64 l.k), .row 3 q 0 q]), .obj (.row false 87 2 (ts.map enc))] := At.to (.lit (.ask (.req (.abs (Coef) (fun YY => AV.pv (PV.rptr (PV.cells ((enc) YY)))) (.lit (.ask (.lit (.lit (.lit (.lit (.lit (.ask (.lit (.lit (.req (.lit (.ask (.lit (.lit (.lit (.req (.lit (.nil)))))) (.lit (.lit (.req (.lit (.nil)))))))))) (.lit (.ask (.lit (.lit (.lit (.req (.lit (.nil)))))) (.lit (.lit (.req (.lit (.nil))))))))))))) (.lit (.lit (.lit (.lit (.lit (.lit (.ask (.lit (.lit (.lit (.req (.lit (.nil)))))) (.lit (.lit (.req (.lit (.nil)))))))))))))))) (.ask (.lit (.lit (.req (.nil)))) (.nil)))) h (by kernel_rfl)
def ic_timeso : IC := (.seq (.reg [⟨(some 3), (.box 2 (.t 0)), 0, none⟩, ⟨(some 4), (.box 2 (.t 1)), 1, none⟩, ⟨(some 6), (.alloc (.agg [(.int .i64 0), (.sl 0 true [])])), 2, none⟩] none) (.seq (.reg [⟨(some 9), (.faddr 0 (.t 3)), 0, none⟩, ⟨(some 10), (.load false [(.int .i64)] (.t 9)), 0, none⟩, ⟨(some 11), (.mv (.t 2)), 0, none⟩, ⟨(some 12), (.faddr 0 (.t 4)), 0, none⟩, ⟨(some 13), (.load false [(.int .i64)] (.t 12)), 0, none⟩, ⟨(some 14), (.bin .num .mul (.t 11) (.t 13)), 0, none⟩, ⟨(some 15), (.bin .num .add (.t 10) (.t 14)), 0, none⟩, ⟨(some 16), (.bslice 87 2 0 (.agg [(.str []), (.int .i64 0)]) []), 0, none⟩, ⟨(some 17), (.faddr 1 (.t 3)), 1, none⟩, ⟨(some 18), (.load false [(.sl 2)] (.t 17)), 1, none⟩, ⟨(some 19), (.append 87 2 24 (.t 16) (.t 18)), 1, none⟩, ⟨(some 20), (.build [(.int .i64 0), (.sl 0 true [])] [(0, (1, (.t 15))), (1, (1, (.t 19)))]), 2, none⟩, ⟨(some 7), (.alloc (.agg [(.int .i64 0), (.sl 0 true [])])), 2, none⟩, ⟨none, (.store 2 (.t 7) (.t 20)), 3, none⟩] (some [[], [0], [], [], [3], [2, 4, 3], [1, 5, 0, 2, 4, 3], [], [], [8], [7, 9, 8], [6, 10, 1, 5, 0, 2, 4, 3, 7, 9, 8], [], [12, 11, 10, 0, 1, 2, 3, 4, 5, 6, 7, 8, 9]])) (.seq (.seq (.reg [⟨(some 8), (.mv (.c (.int .i64 0))), 0, none⟩] none) (.block 0 (.loop [8, 4, 7, 2, 6] (.seq (.seq (.reg [⟨(some 21), (.mv (.t 8)), 0, none⟩, ⟨(some 22), (.faddr 1 (.t 4)), 0, none⟩, ⟨(some 23), (.load false [(.sl 2)] (.t 22)), 0, none⟩, ⟨(some 24), (.len 1 (.t 23)), 0, none⟩, ⟨(some 25), (.bin .num .lss (.t 21) (.t 24)), 0, none⟩] none) (.cond (.t 25) .skip (.exit 0))) (.seq (.block 1 (.reg [⟨(some 28), (.load true [(.int .i64), (.sl 2)] (.t 7)), 0, none⟩, ⟨(some 29), (.faddr 1 (.t 4)), 0, none⟩, ⟨(some 30), (.load false [(.sl 2)] (.t 29)), 0, none⟩, ⟨(some 31), (.mv (.t 8)), 0, none⟩, ⟨(some 32), (.iaddr 2 (.t 30) (.t 31)), 0, none⟩, ⟨(some 33), (.faddr 0 (.t 32)), 0, none⟩, ⟨(some 34), (.load false [.str] (.t 33)), 0, none⟩, ⟨(some 35), (.mv (.t 2)), 0, none⟩, ⟨(some 36), (.faddr 1 (.t 4)), 0, none⟩, ⟨(some 37), (.load false [(.sl 2)] (.t 36)), 0, none⟩, ⟨(some 38), (.mv (.t 8)), 0, none⟩, ⟨(some 39), (.iaddr 2 (.t 37) (.t 38)), 0, none⟩, ⟨(some 40), (.faddr 1 (.t 39)), 0, none⟩, ⟨(some 41), (.load false [(.int .i64)] (.t 40)), 0, none⟩, ⟨(some 42), (.bin .num .mul (.t 35) (.t 41)), 0, none⟩, ⟨(some 43), (.call (.c (.fn 59)) [(.t 28), (.t 34), (.t 42)]), 0, none⟩, ⟨none, (.store 2 (.t 7) (.t 43)), 2, none⟩] (some [[], [], [1], [], [2, 3, 1], [4, 2, 3, 1], [5, 4, 2, 3, 1], [], [], [8], [], [9, 10, 8], [11, 9, 10, 8], [12, 11, 9, 10, 8], [7, 13, 12, 11, 9, 10, 8], [0, 6, 14, 5, 4, 2, 3, 1, 7, 13, 12, 11, 9, 10, 8], [15, 0, 1, 2, 3, 4, 5, 6, 7, 8, 9, 10, 11, 12, 13, 14]]))) (.reg [⟨(some 26), (.mv (.t 8)), 0, none⟩, ⟨(some 27), (.bin .num .add (.t 26) (.c (.int .i64 1))), 0, none⟩, ⟨(some 8), (.mv (.t 27)), 0, none⟩] none)))))) (.seq (.reg [⟨(some 44), (.load true [(.int .i64), (.sl 2)] (.t 7)), 0, none⟩, ⟨none, (.store 2 (.t 6) (.t 44)), 0, none⟩] none) .ret))))
def rs_timeso : List IRes := [(.cell true 2 6)]
abbrev nt_timeso : Nat := 45
def T_timeso : Tab := tab [(59, .own pre_plusW val_plusW)]
theorem timeso_s {G : AV × List AObj × List AObj -> Prop} (l x : Lin) (k : Int) (h : (List.isEmpty (List.map enc l.t) || Enc.sz Coef == 2) = true ∧ ((List.length ([] : List PV) == 0 && 0 == 0 && decide ((0 + List.length (List.map enc l.t)) * 24 <= 1099511627776) && decide (0 + List.length (List.map enc l.t) <= 1099511627776)) = true ∧ (At T_timeso 0 (endO' 0 rs_timeso G) ic_timeso 0 45 [(2, (.pv (.int .i64 k))), (4, (.ptr 0 0)), (6, (.ptr 1 0)), (7, (.ptr 2 0)), (8, (.pv (.int .i64 0)))] [(.obj (.box [(.pv (.int .i64 x.k)), (.pv (.sl 2 false (List.map enc x.t)))])), (.obj (.box [(.pv (.int .i64 0)), (.pv (.sl 0 true []))])), (.obj (.box [(.pv (.int .i64 (IntKind.wrap IntKind.i64 (l.k + IntKind.wrap IntKind.i64 (k * x.k))))), (.row 3 (0 + List.length (List.map enc l.t)) 0 (0 + List.length (List.map enc l.t)))])), (.obj (.row false 87 2 (([] : List PV) ++ List.map enc l.t)))]))) : Gets T_timeso 0 (endO' 0 rs_timeso G) ic_timeso [] (st0O 45 [.pv (enc l), .pv (enc x), .pv (enc k)] []) := Gets.to (.lit (.lit (.lit (.req (.req (.nil)))))) h (by kernel_rfl)
theorem timeso_h0r {G : AV × List AObj × List AObj -> Prop} (l x : Lin) (k : Int) (c : Int) (q w : Nat) (ts : List Coef) (i : Int) (h : if (decide (i < (↑(List.length (List.map enc x.t)) : Int))) = true then (decide (0 <= i) && decide (Int.toNat i < List.length (List.map enc x.t)) && Enc.sz Coef == 2) = true ∧ (∃ y0 : Coef, AV.pv (PV.rptr (PV.cells (List.getD (List.map enc x.t) (Int.toNat i) default))) = AV.pv (PV.rptr (PV.cells ((enc) y0))) ∧ ((decide (0 <= i) && decide (Int.toNat i < List.length (List.map enc x.t)) && Enc.sz Coef == 2) = true ∧ (∃ y1 : Coef, AV.pv (PV.rptr (PV.cells (List.getD (List.map enc x.t) (Int.toNat i) default))) = AV.pv (PV.rptr (PV.cells ((enc) y1))) ∧ ((pre_plusW [(.agg [(.pv (.int .i64 c)), (.row 0 q 0 w)]), (.pv (.str (PV.asStr (List.getD (List.drop 0 (PV.cells (enc y0))) 0 default)))), (.pv (.int .i64 (IntKind.wrap IntKind.i64 (k * PV.asInt (List.getD (List.drop 1 (PV.cells (enc y1))) 0 default)))))] [(.row false 87 2 (List.map enc ts))]) = true ∧ (At T_timeso 0 (endO' 0 rs_timeso G) ic_timeso 0 45 [(2, (.pv (.int .i64 k))), (4, (.ptr 0 0)), (6, (.ptr 1 0)), (7, (.ptr 2 0)), (8, (.pv (.int .i64 (IntKind.wrap IntKind.i64 (i + 1)))))] [(.obj (.box [(.pv (.int .i64 x.k)), (.pv (.sl 2 false (List.map enc x.t)))])), (.obj (.box [(.pv (.int .i64 0)), (.pv (.sl 0 true []))])), (.obj (.box [(.pv (.int .i64 (LR.k (plusR (linW c w (List.map enc ts)) (Str.mk (PV.asStr (List.getD (List.drop 0 (PV.cells (enc y0))) 0 default))) (IntKind.wrap IntKind.i64 (k * PV.asInt (List.getD (List.drop 1 (PV.cells (enc y1))) 0 default))))))), (.row 3 (List.length (LR.ts (plusR (linW c w (List.map enc ts)) (Str.mk (PV.asStr (List.getD (List.drop 0 (PV.cells (enc y0))) 0 default))) (IntKind.wrap IntKind.i64 (k * PV.asInt (List.getD (List.drop 1 (PV.cells (enc y1))) 0 default)))))) 0 (LR.w (plusR (linW c w (List.map enc ts)) (Str.mk (PV.asStr (List.getD (List.drop 0 (PV.cells (enc y0))) 0 default))) (IntKind.wrap IntKind.i64 (k * PV.asInt (List.getD (List.drop 1 (PV.cells (enc y1))) 0 default))))))])), (.obj (.row false 87 2 (List.map enc (LR.ts (plusR (linW c w (List.map enc ts)) (Str.mk (PV.asStr (List.getD (List.drop 0 (PV.cells (enc y0))) 0 default))) (IntKind.wrap IntKind.i64 (k * PV.asInt (List.getD (List.drop 1 (PV.cells (enc y1))) 0 default))))))))]))))) else (G (((.agg [(.pv (.int .i64 c)), (.row 0 q 0 w)]), ([], [(.row false 87 2 (List.map enc ts))]))))) : At T_timeso 0 (endO' 0 rs_timeso G) ic_timeso 0 45 [(2, .pv (.int .i64 k)), (4, .ptr 0 0), (6, .ptr 1 0), (7, .ptr 2 0), (8, .pv (.int .i64 i))] [.obj (.box [.pv (.int .i64 x.k), .pv (enc x.t)]), .obj (.box [.pv (.int .i64 0), .pv (.sl 0 true [])]), .obj (.box [.pv (.int .i64 c), .row 3 q 0 w]), .obj (.row false 87 2 (ts.map enc))] := At.to (.lit (.ask (.req (.abs (Coef) (fun YY => AV.pv (PV.rptr (PV.cells ((enc) YY)))) (.lit (.req (.abs (Coef) (fun YY => AV.pv (PV.rptr (PV.cells ((enc) YY)))) (.lit (.lit (.req (.keep (.lit (.nil))))))))))) (.nil))) h (by kernel_rfl)
end Go.Pl

namespace Go.Pl
open Go.RowKit
open Enc (enc dec is)
open EncL (encL decL isL)
theorem getD_eq {ts : List Coef} {i : Nat} (h : i < ts.length) : ts.getD i ⟨⟨[]⟩, 0⟩ = ts[i] := by simp [List.getD, h]
theorem pluso_l1 (l : Lin) (s : List UInt8) (c : Int) (q : Nat) (ho : q <= 2000000) : ∀ (m i j : Nat) (ts : List Coef), m + i = q -> ts.length = q -> j <= i ->
  At T_pluso 0 (endO' 0 rs_pluso (fun r => r = newR ⟨l.k, (compL m i j ts).2, (compL m i j ts).1⟩ 0 [])) ic_pluso 1 100 [(6, .ptr 0 0), (7, .ptr 1 0), (11, .pv (.int .i64 j)), (12, .pv (.int .i64 i))] [.obj (.box [.pv (.int .i64 0), .pv (.sl 0 true [])]), .obj (.box [.pv (.int .i64 l.k), .row 2 q 0 q]), .obj (.row false 87 2 (ts.map enc))] := by
 intro m
 induction m with
 | zero =>
  intro i j ts hm hts hji
  refine pluso_h1r l s c j i q ts (iteF (by simp; omega) ?_)
  refine ⟨by simp [hts]; omega, ?_⟩
  subst hts
  simp only [Int.toNat_natCast, Nat.zero_add]
  rfl
 | succ m ih =>
  intro i j ts hm hts hji
  have hi' : i < ts.length := by omega
  have hj' : j < ts.length := by omega
  refine pluso_h1r l s c j i q ts ?_
  simp only [getD_z enc hi', getD_z enc hj']
  refine iteT (by simp; omega) ⟨by simp; omega, by simp; omega, rfl, ?_⟩
  rw [compL, getD_eq hi']
  by_cases hz : ts[i].c = 0
  ·refine iteF (by show ¬ (ts[i].c != 0) = true; simp [hz]) ?_
   rw [next (by omega), if_pos hz]
   exact ih (i + 1) j ts (by omega) hts (by omega)
  ·refine iteT (by show (ts[i].c != 0) = true; simp [hz]) ⟨by simp; omega, by simp; omega, rfl, by simp; omega, ?_, ?_⟩
   ·simp only [List.length_map, hts, beq_self_eq_true, Bool.true_and, Nat.zero_add, Int.toNat_natCast, decide_eq_true (show j < q by omega)]
    rfl
   ·rw [Nat.zero_add, Int.toNat_natCast, set_cell, next (by omega), next (by omega), if_neg hz]
    exact ih (i + 1) (j + 1) (ts.set j ts[i]) (by omega) (by simp [hts]) (by omega)
theorem pluso_end (l : Lin) (s : List UInt8) (c : Int) (o : List Coef) (ho : o.length <= 2000000) :
  At T_pluso 0 (endO' 0 rs_pluso (fun r => r = newR (packR l.k o) 0 [])) ic_pluso 1 100 [(6, .ptr 0 0), (7, .ptr 1 0), (11, .pv (.int .i64 0)), (12, .pv (.int .i64 0))] [.obj (.box [.pv (.int .i64 0), .pv (.sl 0 true [])]), .obj (.box [.pv (.int .i64 l.k), .row 2 o.length 0 o.length]), .obj (.row false 87 2 (o.map enc))] :=
 pluso_l1 l s c o.length ho o.length 0 0 o (by omega) rfl (by omega)
theorem pluso_l0 (l : Lin) (s : List UInt8) (c : Int) (hl : l.t.length <= 1000000) : ∀ (m i : Nat) (p : Bool) (q : Nat) (ts : List Coef), m + i = l.t.length -> q = ts.length -> (p = false -> ts.length <= i) -> ts.length <= i + 1 ->
  At T_pluso 0 (endO' 0 rs_pluso (fun r => r = newR (packR l.k (ts ++ insT ⟨s⟩ c p (l.t.drop i))) 0 [])) ic_pluso 0 100 [(1, .pv (.str s)), (2, .pv (.int .i64 c)), (3, .ptr 0 0), (6, .ptr 1 0), (7, .ptr 2 0), (8, .pv (.bool p)), (9, .pv (.int .i64 i))]
   [.obj (.box [.pv (.int .i64 l.k), .pv (enc l.t)]), .obj (.box [.pv (.int .i64 0), .pv (.sl 0 true [])]), .obj (.box [.pv (.int .i64 l.k), .row 3 q 0 q]), .obj (.row false 87 2 (ts.map enc))] := by
 intro m
 induction m with
 | zero =>
  intro i p q ts hm hq h1 h2
  refine pluso_h0b l s c p i q ts (iteF (lt_no (by omega)) ?_)
  rw [List.drop_of_length_le (show l.t.length <= i by omega)]
  refine iteN (fun hp => ?_) fun hp => ?_
  ·subst hp
   refine ⟨by simp [hq]; omega, ?_⟩
   have h := pluso_end l s c (ts ++ [⟨⟨s⟩, c⟩]) (by simp; omega)
   rw [List.map_append, List.length_append, <- hq] at h
   rw [insT]
   exact h
  ·subst hp
   have h := pluso_end l s c ts (by omega)
   rw [<- hq] at h
   rw [insT, if_pos rfl, List.append_nil]
   exact h
 | succ m ih =>
  intro i p q ts hm hq h1 h2
  have hlt : i < l.t.length := by omega
  refine pluso_h0b l s c p i q ts (iteT (lt_ok hlt) ⟨idx_ok hlt rfl, el_ex hlt ?_⟩)
  rw [List.drop_eq_getElem_cons hlt, next (by omega)]
  have key : ∀ (p' : Bool) (add : List Coef), add.length <= 2 -> (p' = false -> (ts ++ add).length <= i + 1) -> (ts ++ add).length <= i + 2 -> ts ++ insT ⟨s⟩ c p (l.t[i] :: l.t.drop (i + 1)) = (ts ++ add) ++ insT ⟨s⟩ c p' (l.t.drop (i + 1)) ->
    At T_pluso 0 (endO' 0 rs_pluso (fun r => r = newR (packR l.k (ts ++ insT ⟨s⟩ c p (l.t[i] :: l.t.drop (i + 1)))) 0 [])) ic_pluso 0 100 [(1, .pv (.str s)), (2, .pv (.int .i64 c)), (3, .ptr 0 0), (6, .ptr 1 0), (7, .ptr 2 0), (8, .pv (.bool p')), (9, .pv (.int .i64 ((i + 1 : Nat) : Int)))]
     [.obj (.box [.pv (.int .i64 l.k), .pv (enc l.t)]), .obj (.box [.pv (.int .i64 0), .pv (.sl 0 true [])]), .obj (.box [.pv (.int .i64 l.k), .row 3 (q + add.length) 0 (q + add.length)]), .obj (.row false 87 2 (ts.map enc ++ add.map enc))] := by
   intro p' add h3 h4 h5 h6
   rw [h6, <- List.map_append]
   exact ih (i + 1) p' (q + add.length) (ts ++ add) (by omega) (by simp [hq]) h4 h5
  generalize l.t[i] = y at key ⊢
  obtain ⟨⟨yv⟩, yc⟩ := y
  subst hq
  refine iteN (fun hp => ?_) fun hp => ?_
  ·subst hp
   have hle := h1 rfl
   refine iteN (fun hb => ?_) fun hb => ?_
   ·have hb : (Op.bytesLess yv s || yv == s) = false := hb
    have hlt2 : s < yv := by
     simp only [bytesLess_eq, Bool.or_eq_false_iff, decide_eq_false_iff_not, beq_eq_false_iff_ne] at hb
     exact tri hb.1 hb.2
    have hne : ¬ yv = s := fun e => by rw [e] at hlt2; exact List.lt_irrefl _ hlt2
    refine ⟨by simp; omega, iteE (fun h => absurd h hne) fun _ => ⟨by simp; omega, ?_⟩⟩
    have := key true [⟨⟨s⟩, c⟩, ⟨⟨yv⟩, yc⟩] (by simp) (fun h => by cases h) (by simp; omega) (by rw [ins_f, if_pos hlt2]; simp)
    rw [List.append_assoc]
    exact this
   ·have hb : (Op.bytesLess yv s || yv == s) = true := hb
    have hnl : ¬ s < yv := by
     simp only [bytesLess_eq, Bool.or_eq_true, decide_eq_true_eq, beq_iff_eq] at hb
     rcases hb with h | h
     ·exact List.lt_asymm h
     ·rw [h]; exact List.lt_irrefl _
    refine iteE (fun h => ?_) fun h => ?_
    ·have h : yv = s := h
     subst h
     refine ⟨by simp; omega, ?_⟩
     exact key true [⟨⟨yv⟩, w64 (yc + c)⟩] (by simp) (fun h => by cases h) (by simp; omega) (by rw [ins_f, if_neg hnl, if_pos rfl]; simp)
    ·have h : yv ≠ s := h
     refine ⟨by simp; omega, ?_⟩
     exact key false [⟨⟨yv⟩, yc⟩] (by simp) (fun _ => by simp; omega) (by simp; omega) (by rw [ins_f, if_neg hnl, if_neg (by rw [str_ext]; exact h)]; simp)
  ·subst hp
   refine iteE (fun h => ?_) fun h => ?_
   ·have h : yv = s := h
    subst h
    refine ⟨by simp; omega, ?_⟩
    exact key true [⟨⟨yv⟩, w64 (yc + c)⟩] (by simp) (fun h => by cases h) (by simp; omega) (by rw [ins_t, if_pos rfl]; simp)
   ·have h : yv ≠ s := h
    refine ⟨by simp; omega, ?_⟩
    exact key true [⟨⟨yv⟩, yc⟩] (by simp) (fun h => by cases h) (by simp; omega) (by rw [ins_t, if_neg (by rw [str_ext]; exact h)]; simp)
theorem pluso_get (l : Lin) (s : List UInt8) (c : Int) (hl : l.t.length <= 1000000) : Gets T_pluso 0 (endO' 0 rs_pluso (fun r => r = newR (plusR l ⟨s⟩ c) 0 [])) ic_pluso [] (st0O nt_pluso [.pv (enc l), .pv (.str s), .pv (enc c)] []) := by
 refine pluso_s l s c (pluso_h0a l s c false 0 ?_)
 show if _ then _ else (if _ then At T_pluso 0 (endO' 0 rs_pluso (fun r => r = newR (packR l.k (insT ⟨s⟩ c false l.t)) 0 [])) _ _ _ _ _ else _)
 by_cases h0 : l.t = []
 ·refine iteF (by simp [h0]) (iteT rfl ?_)
  have h := pluso_end l s c [⟨⟨s⟩, c⟩] (by simp)
  rw [h0, insT]
  exact h
 ·have hlt : 0 < l.t.length := List.length_pos_iff.2 h0
  refine iteT (by simp; omega) ⟨by simp [Enc.sz]; omega, el_ex hlt ?_⟩
  have ed : l.t = l.t[0] :: l.t.drop 1 := by
   have := List.drop_eq_getElem_cons hlt
   rwa [List.drop_zero] at this
  have key : ∀ (p' : Bool) (add : List Coef), add.length <= 2 -> (p' = false -> add.length <= 1) -> insT ⟨s⟩ c false (l.t[0] :: l.t.drop 1) = add ++ insT ⟨s⟩ c p' (l.t.drop 1) ->
    At T_pluso 0 (endO' 0 rs_pluso (fun r => r = newR (packR l.k (insT ⟨s⟩ c false l.t)) 0 [])) ic_pluso 0 100 [(1, .pv (.str s)), (2, .pv (.int .i64 c)), (3, .ptr 0 0), (6, .ptr 1 0), (7, .ptr 2 0), (8, .pv (.bool p')), (9, .pv (.int .i64 ((0 + 1 : Nat) : Int)))]
     [.obj (.box [.pv (.int .i64 l.k), .pv (enc l.t)]), .obj (.box [.pv (.int .i64 0), .pv (.sl 0 true [])]), .obj (.box [.pv (.int .i64 l.k), .row 3 add.length 0 add.length]), .obj (.row false 87 2 (add.map enc))] := by
   intro p' add h3 h4 h6
   have h7 : insT ⟨s⟩ c false l.t = add ++ insT ⟨s⟩ c p' (l.t.drop 1) := by rw [<- h6, <- ed]
   rw [h7]
   exact pluso_l0 l s c hl (l.t.length - 1) (0 + 1) p' add.length add (by omega) rfl (fun h => h4 h) (by omega)
  rw [show IntKind.wrap IntKind.i64 (0 + 1) = ((0 + 1 : Nat) : Int) from rfl]
  generalize l.t[0] = y at key ⊢
  obtain ⟨⟨yv⟩, yc⟩ := y
  refine iteT rfl ?_
  refine iteN (fun hb => ?_) fun hb => ?_
  ·have hb : (Op.bytesLess yv s || yv == s) = false := hb
   have hlt2 : s < yv := by
    simp only [bytesLess_eq, Bool.or_eq_false_iff, decide_eq_false_iff_not, beq_eq_false_iff_ne] at hb
    exact tri hb.1 hb.2
   have hne : ¬ yv = s := fun e => by rw [e] at hlt2; exact List.lt_irrefl _ hlt2
   refine iteE (fun h => absurd h hne) fun _ => ?_
   exact key true [⟨⟨s⟩, c⟩, ⟨⟨yv⟩, yc⟩] (by simp) (fun h => by cases h) (by rw [ins_f, if_pos hlt2]; simp)
  ·have hb : (Op.bytesLess yv s || yv == s) = true := hb
   have hnl : ¬ s < yv := by
    simp only [bytesLess_eq, Bool.or_eq_true, decide_eq_true_eq, beq_iff_eq] at hb
    rcases hb with h | h
    ·exact List.lt_asymm h
    ·rw [h]; exact List.lt_irrefl _
   refine iteE (fun h => ?_) fun h => ?_
   ·have h : yv = s := h
    subst h
    exact key true [⟨⟨yv⟩, w64 (yc + c)⟩] (by simp) (fun h => by cases h) (by rw [ins_f, if_neg hnl, if_pos rfl]; simp)
   ·have h : yv ≠ s := h
    exact key false [⟨⟨yv⟩, yc⟩] (by simp) (fun _ => by simp) (by rw [ins_f, if_neg hnl, if_neg (by rw [str_ext]; exact h)]; simp)
theorem pluso_run : ∀ args os, pre_plusF args os = true -> Gets T_pluso os.length (endO' os.length rs_pluso fun r => r = val_plusF args os) ic_pluso [] (st0O nt_pluso args os) := by
 intro args os h
 unfold pre_plusF at h
 split at h
 ·rename_i l s c
  simp only [Bool.and_eq_true, decide_eq_true_eq] at h
  obtain ⟨hl, h1⟩ := h
  obtain ⟨l, rfl⟩ := can_eq hl
  rw [Enc.dec_enc] at h1
  have ev : val_plusF [.pv (enc l), .pv (.str s), .pv (.int .i64 c)] [] = newR (plusR l ⟨s⟩ c) 0 [] := by
   show newR (plusR (dec (enc l : PV)) ⟨s⟩ c) 0 [] = _
   rw [Enc.dec_enc]
  rw [ev]
  exact pluso_get l s c h1
 ·cases h
end Go.Pl

namespace Go.Pl
open Go.RowKit
open Enc (enc dec is)
open EncL (encL decL isL)
theorem linW_eq (r : LR) : linW r.k r.w (r.ts.map enc) = r.view := by
 unfold linW
 rw [show (dec (PV.sl 2 false (r.ts.map enc)) : List Coef) = r.ts from Enc.dec_enc r.ts]
 rfl
theorem can_row (ts : List Coef) : can (List Coef) (.sl 2 false (ts.map enc)) = true := can_enc (α := List Coef) ts
def plusRN (k : Int) (o : LR) (t : Coef) : LR := plusR o.view t.v (w64 (k * t.c))
theorem plusR_w (l : Lin) (s : Str) (c : Int) : (plusR l s c).w <= (plusR l s c).ts.length ∧ (plusR l s c).w <= l.t.length + 1 := by
 have h1 := pack_w l.k (insT s c false l.t)
 have h2 := pack_len l.k (insT s c false l.t)
 have h3 := ins_len_f s c l.t
 exact ⟨by show (packR _ _).w <= (packR _ _).ts.length; omega, by show (packR _ _).w <= _; omega⟩
theorem timeso_loop (l x : Lin) (k : Int) (hx : x.t.length <= 500000) : ∀ (m i : Nat) (r : LR), m + i = x.t.length -> r.w <= r.ts.length -> r.w <= 500000 + i ->
  At T_timeso 0 (endO' 0 rs_timeso (fun z => z = newR ((x.t.drop i).foldl (plusRN k) r) 0 [])) ic_timeso 0 45 [(2, .pv (.int .i64 k)), (4, .ptr 0 0), (6, .ptr 1 0), (7, .ptr 2 0), (8, .pv (.int .i64 i))] [.obj (.box [.pv (.int .i64 x.k), .pv (enc x.t)]), .obj (.box [.pv (.int .i64 0), .pv (.sl 0 true [])]), .obj (.box [.pv (.int .i64 r.k), .row 3 r.ts.length 0 r.w]), .obj (.row false 87 2 (r.ts.map enc))] := by
 intro m
 induction m with
 | zero =>
  intro i r hi hw ho
  refine timeso_h0r l x k r.k r.ts.length r.w r.ts i (iteF (lt_no (by omega)) ?_)
  rw [List.drop_of_length_le (show x.t.length <= i by omega)]
  rfl
 | succ m ih =>
  intro i r hi hw ho
  have hlt : i < x.t.length := by omega
  refine timeso_h0r l x k r.k r.ts.length r.w r.ts i (iteT (lt_ok hlt) ⟨idx_ok hlt rfl, el_ex hlt ⟨idx_ok hlt rfl, el_ex hlt ⟨?_, ?_⟩⟩⟩)
  ·show (can (List Coef) (.sl 2 false (r.ts.map enc)) && (r.ts.map (enc : Coef -> PV)).length == r.ts.length && decide (r.w <= r.ts.length) && decide (r.w <= 1000000)) = true
   rw [can_row, List.length_map, decide_eq_true hw, decide_eq_true (show r.w <= 1000000 by omega)]
   simp
  ·rw [linW_eq, List.drop_eq_getElem_cons hlt, List.foldl_cons, next (by omega)]
   have hp := plusR_w r.view x.t[i].v (w64 (k * x.t[i].c))
   have hv : r.view.t.length <= r.w := by show (r.ts.take r.w).length <= _; simp; omega
   exact ih (i + 1) (plusRN k r x.t[i]) (by omega) hp.1 (by have := hp.2; show (plusR r.view x.t[i].v (w64 (k * x.t[i].c))).w <= _; omega)
theorem timeso_get (l x : Lin) (k : Int) (hl : l.t.length <= 500000) (hx : x.t.length <= 500000) : Gets T_timeso 0 (endO' 0 rs_timeso (fun z => z = newR (timesR l x k) 0 [])) ic_timeso [] (st0O nt_timeso [.pv (enc l), .pv (enc x), .pv (enc k)] []) := by
 refine timeso_s l x k ⟨by simp [Enc.sz], by simp; omega, ?_⟩
 have hq : (0 + List.length (List.map (enc : Coef -> PV) l.t)) = l.t.length := by simp
 rw [hq, List.nil_append]
 have h := timeso_loop l x k hx x.t.length 0 ⟨w64 (l.k + w64 (k * x.k)), l.t.length, l.t⟩ (by omega) (Nat.le_refl _) (by show l.t.length <= _; omega)
 exact h
theorem timeso_run : ∀ args os, pre_timesF args os = true -> Gets T_timeso os.length (endO' os.length rs_timeso fun r => r = val_times args os) ic_timeso [] (st0O nt_timeso args os) := by
 intro args os h
 unfold pre_timesF at h
 split at h
 ·rename_i l x k
  simp only [Bool.and_eq_true, decide_eq_true_eq] at h
  obtain ⟨⟨⟨hl, hx⟩, h1⟩, h2⟩ := h
  obtain ⟨l, rfl⟩ := can_eq hl
  obtain ⟨x, rfl⟩ := can_eq hx
  rw [Enc.dec_enc] at h1 h2
  have ev : val_times [.pv (enc l), .pv (enc x), .pv (.int .i64 k)] [] = newR (timesR l x k) 0 [] := by
   show newR (timesR (dec (enc l : PV)) (dec (enc x : PV)) k) 0 [] = _
   rw [Enc.dec_enc, Enc.dec_enc]
  rw [ev]
  exact timeso_get l x k h1 h2
 ·cases h
theorem SubL.rfl (ps : List PV) : SubL ps ps := ⟨Eq.refl _, fun j x y hx hy Φ v h => by rw [hx] at hy; cases hy; exact h⟩
theorem own_new {pre : List AV -> List AObj -> Bool} {val : List AV -> List AObj -> AV × List AObj × List AObj} {a b c : PV} {r : LR} {o : AObj} (h1 : pre [.pv a, .pv b, .pv c] [] = true) (h2 : val [.pv a, .pv b, .pv c] [] = newR r 0 []) :
  (ownCall 1 pre val [.pv a, .pv b, .pv c]).run [.obj o, .fresh] = some (r.av 1, [.obj o, .obj r.ob]) := by
 have H : ∀ (t : Bool) (v : AV × List AObj × List AObj), t = true -> v = newR r 0 [] -> (HM.req t (match v with
   | (x, os, ext) => match x.ren (bwd [] 1), renOs (bwd [] 1) os, renOs (bwd [] 1) ext with
    | some x', some os', some ext' => if os'.length = ([] : List Nat).length then putAll (([] : List Nat).zip os') (newAll 1 ext' (.ret x')) else .fail
    | _, _, _ => .fail)).run [.obj o, .fresh] = some (r.av 1, [.obj o, .obj r.ob]) := by
  rintro _ _ rfl rfl
  rfl
 exact H _ _ h1 h2
theorem pack_new (fz : Bool) (ty : Nat) (xs : List PV) (r : LR) : packO 1 (reach 256 (List.range 1 ++ refsL [r.av 1]) [] [.obj (.row fz ty 2 xs), .obj r.ob]) [r.av 1] [.obj (.row fz ty 2 xs), .obj r.ob] = some ([r.av 1], [.row fz ty 2 xs, r.ob]) := by
 obtain ⟨k, w, ts⟩ := r
 rfl
theorem plus_thaw {P : Program} {f : Nat} (h : OwnOK P f pre_plusF val_plusF) : OwnOK P f pre_plusW val_plusW := by
 refine OwnOK.thaw h fun args os hp => ?_
 unfold pre_plusW at hp
 split at hp
 ·rename_i k q w s c fz ty xs
  simp only [Bool.and_eq_true, decide_eq_true_eq, beq_iff_eq] at hp
  obtain ⟨⟨⟨hc, hq⟩, hw⟩, hw2⟩ := hp
  obtain ⟨ts, e⟩ := can_eq hc
  have e : xs = ts.map enc := by cases e; rfl
  subst e
  have hq : ts.length = q := by simpa using hq
  subst hq
  have ed : (dec (PV.sl 2 false (ts.map enc)) : List Coef) = ts := Enc.dec_enc ts
  have ev : val_plusW [.agg [.pv (.int .i64 k), .row 0 ts.length 0 w], .pv (.str s), .pv (.int .i64 c)] [.row fz ty 2 (ts.map enc)] = newR (plusR ⟨k, ts.take w⟩ ⟨s⟩ c) 1 [.row true ty 2 (ts.map enc)] := by
   show newR (plusR ⟨k, List.take w (dec (PV.sl 2 false (ts.map enc)) : List Coef)⟩ ⟨s⟩ c) 1 _ = _
   rw [ed]
  rw [ev]
  have e2 : (.sl 2 false (List.drop 0 (List.take w (List.map (enc : Coef -> PV) ts))) : PV) = enc (ts.take w) := by rw [List.drop_zero, <- List.map_take]; rfl
  have hcan : pre_plusF [.pv (.agg [.int .i64 k, .sl 2 false (List.drop 0 (List.take w (List.map (enc : Coef -> PV) ts)))]), .pv (.str s), .pv (.int .i64 c)] [] = true := by
   rw [e2]
   show (can Lin (enc (⟨k, ts.take w⟩ : Lin)) && decide ((dec (enc (⟨k, ts.take w⟩ : Lin) : PV) : Lin).t.length <= 1000000)) = true
   rw [can_enc, Enc.dec_enc]
   simp; omega
  have hval : val_plusF [.pv (.agg [.int .i64 k, .sl 2 false (List.drop 0 (List.take w (List.map (enc : Coef -> PV) ts)))]), .pv (.str s), .pv (.int .i64 c)] [] = newR (plusR ⟨k, ts.take w⟩ ⟨s⟩ c) 0 [] := by
   rw [e2]
   show newR (plusR (dec (enc (⟨k, ts.take w⟩ : Lin) : PV)) ⟨s⟩ c) 0 [] = _
   rw [Enc.dec_enc]
  generalize plusR ⟨k, ts.take w⟩ ⟨s⟩ c = r at hval ⊢
  generalize hsl : List.drop 0 (List.take w (List.map (enc : Coef -> PV) ts)) = sl at hcan hval
  have hl : (List.map (enc : Coef -> PV) ts).length = ts.length := by simp
  generalize List.map (enc : Coef -> PV) ts = xs at hl hsl ⊢
  rw [<- hl]
  refine ⟨1, [.agg [.int .i64 k, .sl 2 false sl], .str s, .int .i64 c], [.agg [.int .i64 k, .sl 2 false sl], .str s, .int .i64 c], [.obj (.row true ty 2 xs), .fresh], r.av 1, [.obj (.row true ty 2 xs), .obj r.ob], r.av 1, [.row true ty 2 xs, r.ob], SubL.rfl _, ?_, ?_, ?_, rfl⟩
  ·subst hsl
   simp [frzL, frz, HM.bind, HM.run, objs, HM.req]
   done
  ·exact own_new hcan hval
  ·exact pack_new true ty xs r
 ·cases hp
def pre_timesW : List AV -> List AObj -> Bool
 | [.agg [.pv (.int .i64 c), .row 0 q 0 w], .pv x, .pv (.int .i64 k)], [.row fz ty 2 xs] => can (List Coef) (.sl 2 false xs) && can Lin x && xs.length == q && decide (w <= q) && decide (w <= 500000) && decide ((dec x : Lin).t.length <= 500000)
 | _, _ => false
def pre_timesA : List AV -> List AObj -> Bool
 | [.pv a, .pv x, .pv (.int .i64 k)], [] => is Lin a && can Lin x && decide ((dec a : Lin).t.length <= 500000) && decide ((dec x : Lin).t.length <= 500000)
 | _, _ => false
theorem timesW_thaw {P : Program} {f : Nat} (h : OwnOK P f pre_timesF val_times) : OwnOK P f pre_timesW val_times := by
 refine OwnOK.thaw h fun args os hp => ?_
 unfold pre_timesW at hp
 split at hp
 ·rename_i k q w x c fz ty xs
  simp only [Bool.and_eq_true, decide_eq_true_eq, beq_iff_eq] at hp
  obtain ⟨⟨⟨⟨⟨hc, hx⟩, hq⟩, hw⟩, hw2⟩, hx2⟩ := hp
  obtain ⟨ts, e⟩ := can_eq hc
  have e : xs = ts.map enc := by cases e; rfl
  subst e
  have hq : ts.length = q := by simpa using hq
  subst hq
  have ed : (dec (PV.sl 2 false (ts.map enc)) : List Coef) = ts := Enc.dec_enc ts
  have ev : val_times [.agg [.pv (.int .i64 k), .row 0 ts.length 0 w], .pv x, .pv (.int .i64 c)] [.row fz ty 2 (ts.map enc)] = newR (timesR ⟨k, ts.take w⟩ (dec x) c) 1 [.row true ty 2 (ts.map enc)] := by
   show newR (timesR ⟨k, List.take w (dec (PV.sl 2 false (ts.map enc)) : List Coef)⟩ (dec x) c) 1 _ = _
   rw [ed]
  rw [ev]
  have e2 : (.sl 2 false (List.drop 0 (List.take w (List.map (enc : Coef -> PV) ts))) : PV) = enc (ts.take w) := by rw [List.drop_zero, <- List.map_take]; rfl
  have hcan : pre_timesF [.pv (.agg [.int .i64 k, .sl 2 false (List.drop 0 (List.take w (List.map (enc : Coef -> PV) ts)))]), .pv x, .pv (.int .i64 c)] [] = true := by
   rw [e2]
   show (can Lin (enc (⟨k, ts.take w⟩ : Lin)) && can Lin x && decide ((dec (enc (⟨k, ts.take w⟩ : Lin) : PV) : Lin).t.length <= 500000) && decide ((dec x : Lin).t.length <= 500000)) = true
   rw [can_enc, Enc.dec_enc, hx, decide_eq_true hx2]
   simp; omega
  have hval : val_times [.pv (.agg [.int .i64 k, .sl 2 false (List.drop 0 (List.take w (List.map (enc : Coef -> PV) ts)))]), .pv x, .pv (.int .i64 c)] [] = newR (timesR ⟨k, ts.take w⟩ (dec x) c) 0 [] := by
   rw [e2]
   show newR (timesR (dec (enc (⟨k, ts.take w⟩ : Lin) : PV)) (dec x) c) 0 [] = _
   rw [Enc.dec_enc]
  generalize timesR ⟨k, ts.take w⟩ (dec x) c = r at hval ⊢
  generalize hsl : List.drop 0 (List.take w (List.map (enc : Coef -> PV) ts)) = sl at hcan hval
  have hl : (List.map (enc : Coef -> PV) ts).length = ts.length := by simp
  generalize List.map (enc : Coef -> PV) ts = xs at hl hsl ⊢
  rw [<- hl]
  refine ⟨1, [.agg [.int .i64 k, .sl 2 false sl], x, .int .i64 c], [.agg [.int .i64 k, .sl 2 false sl], x, .int .i64 c], [.obj (.row true ty 2 xs), .fresh], r.av 1, [.obj (.row true ty 2 xs), .obj r.ob], r.av 1, [.row true ty 2 xs, r.ob], SubL.rfl _, ?_, ?_, ?_, rfl⟩
  ·subst hsl
   simp [frzL, frz, HM.bind, HM.run, objs, HM.req]
   done
  ·exact own_new hcan hval
  ·exact pack_new true ty xs r
 ·cases hp
theorem own_new0 {pre : List AV -> List AObj -> Bool} {val : List AV -> List AObj -> AV × List AObj × List AObj} {a b c : PV} {r : LR} (h1 : pre [.pv a, .pv b, .pv c] [] = true) (h2 : val [.pv a, .pv b, .pv c] [] = newR r 0 []) :
  (ownCall 0 pre val [.pv a, .pv b, .pv c]).run [.fresh] = some (r.av 0, [.obj r.ob]) := by
 have H : ∀ (t : Bool) (v : AV × List AObj × List AObj), t = true -> v = newR r 0 [] -> (HM.req t (match v with
   | (x, os, ext) => match x.ren (bwd [] 0), renOs (bwd [] 0) os, renOs (bwd [] 0) ext with
    | some x', some os', some ext' => if os'.length = ([] : List Nat).length then putAll (([] : List Nat).zip os') (newAll 0 ext' (.ret x')) else .fail
    | _, _, _ => .fail)).run [.fresh] = some (r.av 0, [.obj r.ob]) := by
  rintro _ _ rfl rfl
  rfl
 exact H _ _ h1 h2
theorem pack_new0 (r : LR) : packO 0 (reach 256 (List.range 0 ++ refsL [r.av 0]) [] [.obj r.ob]) [r.av 0] [.obj r.ob] = some ([r.av 0], [r.ob]) := by
 obtain ⟨k, w, ts⟩ := r
 rfl
theorem timesA_thaw {P : Program} {f : Nat} (h : OwnOK P f pre_timesF val_times) : OwnOK P f pre_timesA val_times := by
 refine OwnOK.thaw h fun args os hp => ?_
 unfold pre_timesA at hp
 split at hp
 ·rename_i a x k
  simp only [Bool.and_eq_true, decide_eq_true_eq] at hp
  obtain ⟨⟨⟨hi, hx⟩, h1⟩, h2⟩ := hp
  have ev : val_times [.pv a, .pv x, .pv (.int .i64 k)] [] = newR (timesR (dec a) (dec x) k) 0 [] := rfl
  rw [ev]
  have hsub := (Enc.sub (α := Lin) a hi).2
  generalize (dec a : Lin) = l at hsub h1 ⊢
  have hcan : pre_timesF [.pv (enc l), .pv x, .pv (.int .i64 k)] [] = true := by
   show (can Lin (enc l) && can Lin x && decide ((dec (enc l : PV) : Lin).t.length <= 500000) && decide ((dec x : Lin).t.length <= 500000)) = true
   rw [can_enc, Enc.dec_enc, hx, decide_eq_true h1, decide_eq_true h2]; rfl
  have hval : val_times [.pv (enc l), .pv x, .pv (.int .i64 k)] [] = newR (timesR l (dec x) k) 0 [] := by
   show newR (timesR (dec (enc l : PV)) (dec x) k) 0 [] = _
   rw [Enc.dec_enc]
  generalize timesR l (dec x) k = r at hval ⊢
  refine ⟨1, [a, x, .int .i64 k], [enc l, x, .int .i64 k], [.fresh], r.av 0, [.obj r.ob], r.av 0, [r.ob], ?_, ?_, ?_, ?_, rfl⟩
  ·exact SubL.cons hsub (SubL.rfl _)
  ·simp [frzL, frz, HM.bind, HM.run, objs, HM.req]
  ·exact own_new0 hcan hval
  ·exact pack_new0 r
 ·cases hp
theorem times_thaw {P : Program} {f : Nat} (h : OwnOK P f pre_timesF val_times) : OwnOK P f pre_times val_times :=
 OwnOK.or (timesA_thaw h) (timesW_thaw h) fun a o hp => by
  unfold pre_times at hp
  split at hp
  ·exact .inl hp
  ·exact .inr hp
  ·cases hp
theorem LR.frz_av (r : LR) : (frz (r.av 0)).run (objs [r.ob]) = some (enc r.view, [.obj (.row true 87 2 (r.ts.map enc))]) := by
 have : (PV.agg [.int .i64 r.k, .sl 2 false (List.drop 0 (List.take r.w (r.ts.map enc)))]) = enc r.view := by
  rw [List.drop_zero, <- List.map_take]; rfl
 rw [<- this]
 simp [frz, frzL, HM.bind, HM.run, objs, LR.av, LR.ob]
theorem plus_pure {P : Program} {f : Nat} (h : OwnOK P f pre_plusF val_plusF) : Does P f (fun x : Lin × Str × Int × Unit => decide (x.1.t.length <= 1000000)) (fun x : Lin × Str × Int × Unit => plusL x.1 x.2.1 x.2.2.1) := Does.of_own h fun a ha => by
 obtain ⟨l, ⟨s⟩, c, ⟨⟩⟩ := a
 have ha : l.t.length <= 1000000 := by simpa using ha
 refine ⟨(plusR l ⟨s⟩ c).av 0, [(plusR l ⟨s⟩ c).ob], _, _, ?_, ?_, LR.frz_av _, ?_⟩
 ·show (can Lin (enc l) && decide ((dec (enc l : PV) : Lin).t.length <= 1000000)) = true
  rw [can_enc, Enc.dec_enc, decide_eq_true ha]; rfl
 ·show newR (plusR (dec (enc l : PV)) ⟨s⟩ c) 0 [] = _
  rw [Enc.dec_enc]; rfl
 ·rw [plusR_view]; exact .refl _
theorem times_pure {P : Program} {f : Nat} (h : OwnOK P f pre_timesF val_times) : Does P f (fun x : Lin × Lin × Int × Unit => decide (x.1.t.length <= 500000) && decide (x.2.1.t.length <= 500000)) (fun x : Lin × Lin × Int × Unit => timesL x.1 x.2.1 x.2.2.1) := Does.of_own h fun a ha => by
 obtain ⟨l, x, k, ⟨⟩⟩ := a
 have ha : l.t.length <= 500000 ∧ x.t.length <= 500000 := by simpa using ha
 refine ⟨(timesR l x k).av 0, [(timesR l x k).ob], _, _, ?_, ?_, LR.frz_av _, ?_⟩
 ·show (can Lin (enc l) && can Lin (enc x) && decide ((dec (enc l : PV) : Lin).t.length <= 500000) && decide ((dec (enc x : PV) : Lin).t.length <= 500000)) = true
  rw [can_enc, can_enc, Enc.dec_enc, Enc.dec_enc, decide_eq_true ha.1, decide_eq_true ha.2]; rfl
 ·show newR (timesR (dec (enc l : PV)) (dec (enc x : PV)) k) 0 [] = _
  rw [Enc.dec_enc, Enc.dec_enc]; rfl
 ·rw [timesR_view]; exact .refl _
end Go.Pl

namespace Go.Pl
open Go.RowKit
open Enc (enc dec is)
open EncL (encL decL isL)
def factsL (l : List Lin) : List Fact := l.map fun h => ⟨false, h⟩
def provesC (hs : List Lin) (g : Lin) (c : Cert) : Int := if valid7 (factsL hs) then (if validL g then (if (negL g).2 ≠ 0 then (negL g).2 else checkC (moreF (factsL hs) (negL g).1) c) else 1) else 1
def provesPre (hs : List Lin) (g : Lin) (c : Cert) : Bool := decide (hs.length <= 2000000) && hs.all linSm && linSm g && cSm c && decide (hs.length + 1 + depC c <= 300)
def facR (xs : List PV) : List Fact := dec (PV.sl 3 false xs)
def rowR (n m : Nat) (xs : List PV) : Bool := m == n && xs.length == n && can (List Fact) (.sl 3 false xs) && factsSm (facR xs)
def pre_ixR (g : Nat) : List AV -> List AObj -> Bool
 | [.row 0 n 0 m, .pv (.fn g')], [.row false ty 3 xs] => g' == g && ty == 83 && rowR n m xs
 | _, _ => false
def val_ixR : List AV -> List AObj -> AV × List AObj × List AObj
 | _, [.row fz ty sz xs] => (.pv (.int .i64 (ixFind (fun f => !(validL f.l)) (facR xs))), [.row fz ty sz xs], [])
 | _, _ => combN
def val_cfR : List AV -> List AObj -> AV × List AObj × List AObj
 | _, [.row fz ty sz xs] => (.pv (.bool ((facR xs).any fun f => !(validL f.l))), [.row fz ty sz xs], [])
 | _, _ => combN
def pre_cvR : List AV -> List AObj -> Bool
 | [.row 0 n 0 m], [.row false ty 3 xs] => ty == 83 && rowR n m xs
 | _, _ => false
def val_cvR : List AV -> List AObj -> AV × List AObj × List AObj
 | _, [.row fz ty sz xs] => (.pv (.bool (valid7 (facR xs))), [.row fz ty sz xs], [])
 | _, _ => combN
end Go.Pl

namespace Go.Pl
open Go.RowKit
open Enc (enc dec is)
open EncL (encL decL isL)
set_option maxRecDepth 100000
def ic_ixr : IC := ic_ixv
def rs_ixr : List IRes := [(.tmp 4)]
abbrev nt_ixr : Nat := 19
def T_ixr : Tab := tab [(76, .pure (preT (fun x : Fact × Unit => linSm x.1.l)) (valT (fun x : Fact × Unit => !(validL x.1.l))))]
theorem ixr_s {G : AV × List AObj × List AObj -> Prop} (l : List Fact) (n : Nat) (h : At T_ixr 1 (endO' 1 rs_ixr G) ic_ixr 0 19 [(0, (.row 0 n 0 n)), (1, (.pv (.fn 76))), (7, (.pv (.int .i64 (↑(n - 0) : Int)))), (8, (.pv (.int .i64 0)))] [(.obj (.row false 83 3 (List.map enc l)))]) : Gets T_ixr 1 (endO' 1 rs_ixr G) ic_ixr [] (st0O 19 [.row 0 n 0 n, .pv (.fn 76)] [.row false 83 3 (l.map enc)]) := Gets.to (.nil) h (by kernel_rfl)
theorem ixr_h0 {G : AV × List AObj × List AObj -> Prop} (l : List Fact) (n : Nat) (i : Int) (h : if (decide (i < (↑n : Int))) = true then (decide (0 <= i) && decide (0 + Int.toNat i < n) && List.length (List.map enc l) == n) = true ∧ ((List.length (List.map enc l) == n && decide (0 + Int.toNat i < List.length (List.map enc l))) = true ∧ ((decide (0 + List.length [Sh.bool, Sh.int .i64, Sh.sl 2] <= List.length (PV.cells (List.getD (List.map enc l) (0 + Int.toNat i) default))) && shFit (PV.cells (List.getD (List.map enc l) (0 + Int.toNat i) default)) 0 [Sh.bool, Sh.int .i64, Sh.sl 2]) = true ∧ ((Go.Pl.preT (fun (x : Fact × Unit) => linSm (Fact.l x.1)) [(.agg [(.bool (PV.asBool (List.getD (PV.cells (List.getD (List.map enc l) (0 + Int.toNat i) default)) 0 default))), (.int .i64 (PV.asInt (List.getD (PV.cells (List.getD (List.map enc l) (0 + Int.toNat i) default)) (0 + 1) default))), (.sl 2 (PV.asT (List.getD (PV.cells (List.getD (List.map enc l) (0 + Int.toNat i) default)) (0 + 1 + 1) default)) (PV.asXs (List.getD (PV.cells (List.getD (List.map enc l) (0 + Int.toNat i) default)) (0 + 1 + 1) default)))])]) = true ∧ (∃ y0 : Bool, AV.pv (valT (fun (x : Fact × Unit) => !validL (Fact.l x.1)) [(.agg [(.bool (PV.asBool (List.getD (PV.cells (List.getD (List.map enc l) (0 + Int.toNat i) default)) 0 default))), (.int .i64 (PV.asInt (List.getD (PV.cells (List.getD (List.map enc l) (0 + Int.toNat i) default)) (0 + 1) default))), (.sl 2 (PV.asT (List.getD (PV.cells (List.getD (List.map enc l) (0 + Int.toNat i) default)) (0 + 1 + 1) default)) (PV.asXs (List.getD (PV.cells (List.getD (List.map enc l) (0 + Int.toNat i) default)) (0 + 1 + 1) default)))])]) = AV.pv (enc y0) ∧ (if (y0) = true then G (((.pv (.int .i64 i)), ([(.row false 83 3 (List.map enc l))], []))) else (At T_ixr 1 (endO' 1 rs_ixr G) ic_ixr 0 19 [(0, (.row 0 n 0 n)), (1, (.pv (.fn 76))), (7, (.pv (.int .i64 (↑n : Int)))), (8, (.pv (.int .i64 (IntKind.wrap IntKind.i64 (i + 1)))))] [(.obj (.row false 83 3 (List.map enc l)))])))))) else (G (((.pv (.int .i64 (-1))), ([(.row false 83 3 (List.map enc l))], []))))) : At T_ixr 1 (endO' 1 rs_ixr G) ic_ixr 0 19 [(0, .row 0 n 0 n), (1, .pv (.fn 76)), (7, .pv (.int .i64 n)), (8, .pv (.int .i64 i))] [.obj (.row false 83 3 (l.map enc))] := At.to (.lit (.ask (.req (.keep (.req (.req (.req (.abs (Bool) (fun YY => AV.pv (enc YY)) (.ask (.nil) (.lit (.nil))))))))) (.nil))) h (by kernel_rfl)
def ic_cfr : IC := ic_cfv
def rs_cfr : List IRes := [(.tmp 4)]
abbrev nt_cfr : Nat := 9
def T_cfr : Tab := tab [(126, .own (pre_ixR 76) val_ixR)]
theorem cfr_s {G : AV × List AObj × List AObj -> Prop} (l : List Fact) (n : Nat) (h : (pre_ixR 76 [(.row 0 n 0 n), (.pv (.fn 76))] [(.row false 83 3 (List.map enc l))]) = true ∧ (G (((.pv (.bool (decide (ixFind (fun (f : Fact) => !validL (Fact.l f)) (facR (List.map enc l)) ≥ 0)))), ([(.row false 83 3 (List.map enc l))], []))))) : Gets T_cfr 1 (endO' 1 rs_cfr G) ic_cfr [] (st0O 9 [.row 0 n 0 n, .pv (.fn 76)] [.row false 83 3 (l.map enc)]) := Gets.to (.req (.keep (.lit (.nil)))) h (by kernel_rfl)
def ic_cvr : IC := ic_cvalid
def rs_cvr : List IRes := [(.tmp 2)]
abbrev nt_cvr : Nat := 6
def T_cvr : Tab := tab [(75, .own (pre_ixR 76) val_cfR)]
theorem cvr_s {G : AV × List AObj × List AObj -> Prop} (l : List Fact) (n : Nat) (h : (pre_ixR 76 [(.row 0 n 0 n), (.pv (.fn 76))] [(.row false 83 3 (List.map enc l))]) = true ∧ (G (((.pv (.bool (!List.any (facR (List.map enc l)) fun (f : Fact) => !validL (Fact.l f)))), ([(.row false 83 3 (List.map enc l))], []))))) : Gets T_cvr 1 (endO' 1 rs_cvr G) ic_cvr [] (st0O 6 [.row 0 n 0 n] [.row false 83 3 (l.map enc)]) := Gets.to (.req (.keep (.nil))) h (by kernel_rfl)
def ic_rfacts : IC := (.seq (.reg [⟨(some 2), (.mv (.c (.sl 0 true []))), 0, none⟩] none) (.seq (.reg [⟨(some 3), (.mv (.c (.sl 0 true []))), 0, none⟩] none) (.seq (.seq (.reg [⟨(some 4), (.mv (.c (.int .i64 0))), 0, none⟩] none) (.block 0 (.loop [4, 0, 3] (.seq (.seq (.reg [⟨(some 5), (.mv (.t 4)), 0, none⟩, ⟨(some 6), (.mv (.t 0)), 0, none⟩, ⟨(some 7), (.len 1 (.t 6)), 0, none⟩, ⟨(some 8), (.bin .num .lss (.t 5) (.t 7)), 0, none⟩] none) (.cond (.t 8) .skip (.exit 0))) (.seq (.block 1 (.reg [⟨(some 11), (.mv (.t 3)), 0, none⟩, ⟨(some 12), (.mv (.t 0)), 0, none⟩, ⟨(some 13), (.mv (.t 4)), 0, none⟩, ⟨(some 14), (.iaddr 2 (.t 12) (.t 13)), 0, none⟩, ⟨(some 15), (.load true [(.int .i64), (.sl 2)] (.t 14)), 0, none⟩, ⟨(some 16), (.build [(.bool false), (.int .i64 0), (.sl 0 true [])] [(1, (2, (.t 15)))]), 0, none⟩, ⟨(some 17), (.bslice 83 3 1 (.agg [(.bool false), (.int .i64 0), (.sl 0 true [])]) [(0, (.t 16))]), 0, none⟩, ⟨(some 18), (.append 83 3 40 (.t 11) (.t 17)), 1, none⟩, ⟨(some 3), (.mv (.t 18)), 2, none⟩] none)) (.reg [⟨(some 9), (.mv (.t 4)), 0, none⟩, ⟨(some 10), (.bin .num .add (.t 9) (.c (.int .i64 1))), 0, none⟩, ⟨(some 4), (.mv (.t 10)), 0, none⟩] none)))))) (.seq (.reg [⟨(some 19), (.mv (.t 3)), 0, none⟩, ⟨(some 2), (.mv (.t 19)), 0, none⟩] none) .ret))))
def rs_rfacts : List IRes := [(.tmp 2)]
abbrev nt_rfacts : Nat := 20
def T_rfacts : Tab := tab []
theorem rfacts_s {G : PV -> Prop} (ls : List Lin) (h : At T_rfacts 0 (endP' rs_rfacts G) ic_rfacts 0 20 [(0, (.pv (.sl 2 false (List.map enc ls)))), (3, (.pv (.sl 0 true []))), (4, (.pv (.int .i64 0)))] []) : Gets T_rfacts 0 (endP' rs_rfacts G) ic_rfacts [] (st0 20 [enc ls]) := Gets.tp (.nil) h (by kernel_rfl)
theorem rfacts_h0a {G : PV -> Prop} (ls : List Lin) (i : Int) (h : if (decide (i < (↑(List.length (List.map enc ls)) : Int))) = true then (decide (0 <= i) && decide (Int.toNat i < List.length (List.map enc ls)) && Enc.sz Lin == 2) = true ∧ (∃ y0 : Lin, AV.pv (PV.rptr (PV.cells (List.getD (List.map enc ls) (Int.toNat i) default))) = AV.pv (PV.rptr (PV.cells ((enc) y0))) ∧ (At T_rfacts 0 (endP' rs_rfacts G) ic_rfacts 0 20 [(0, (.pv (.sl 2 false (List.map enc ls)))), (3, (.row 0 1 0 1)), (4, (.pv (.int .i64 (IntKind.wrap IntKind.i64 (i + 1)))))] [(.obj (.row false 83 3 [(.agg [(.bool false), (.int .i64 (PV.asInt (List.getD (PV.cells (enc y0)) 0 default))), (.sl 2 false (PV.asXs (List.getD (PV.cells (enc y0)) (0 + 1) default)))])]))])) else (G ((.sl 0 true [])))) : At T_rfacts 0 (endP' rs_rfacts G) ic_rfacts 0 20 [(0, .pv (enc ls)), (3, .pv (.sl 0 true [])), (4, .pv (.int .i64 i))] [] := At.tp (.lit (.ask (.req (.abs (Lin) (fun YY => AV.pv (PV.rptr (PV.cells ((enc) YY)))) (.lit (.lit (.lit (.lit (.lit (.lit (.lit (.nil)))))))))) (.nil))) h (by kernel_rfl)
theorem rfacts_h0b {G : PV -> Prop} (ls : List Lin) (q : Nat) (ts : List Fact) (i : Int) (h : if (decide (i < (↑(List.length (List.map enc ls)) : Int))) = true then (decide (0 <= i) && decide (Int.toNat i < List.length (List.map enc ls)) && Enc.sz Lin == 2) = true ∧ (∃ y0 : Lin, AV.pv (PV.rptr (PV.cells (List.getD (List.map enc ls) (Int.toNat i) default))) = AV.pv (PV.rptr (PV.cells ((enc) y0))) ∧ ((List.length (List.map enc ts) == q && q == q && decide ((q + List.length (List.drop 0 (List.take 1 [PV.agg [PV.bool false, Sh.co (Sh.int .i64) (List.getD (PV.cells (enc y0)) 0 default), Sh.co (Sh.sl 2) (List.getD (PV.cells (enc y0)) (0 + 1) default)]]))) * 40 <= 1099511627776) && decide (q + List.length (List.drop 0 (List.take 1 [PV.agg [PV.bool false, Sh.co (Sh.int .i64) (List.getD (PV.cells (enc y0)) 0 default), Sh.co (Sh.sl 2) (List.getD (PV.cells (enc y0)) (0 + 1) default)]])) <= 1099511627776)) = true ∧ (At T_rfacts 0 (endP' rs_rfacts G) ic_rfacts 0 20 [(0, (.pv (.sl 2 false (List.map enc ls)))), (3, (.row 0 (q + List.length (List.drop 0 (List.take 1 [PV.agg [PV.bool false, Sh.co (Sh.int .i64) (List.getD (PV.cells (enc y0)) 0 default), Sh.co (Sh.sl 2) (List.getD (PV.cells (enc y0)) (0 + 1) default)]]))) 0 (q + List.length (List.drop 0 (List.take 1 [PV.agg [PV.bool false, Sh.co (Sh.int .i64) (List.getD (PV.cells (enc y0)) 0 default), Sh.co (Sh.sl 2) (List.getD (PV.cells (enc y0)) (0 + 1) default)]]))))), (4, (.pv (.int .i64 (IntKind.wrap IntKind.i64 (i + 1)))))] [(.obj (.row false 83 3 (List.map enc ts ++ List.drop 0 (List.take 1 [PV.agg [PV.bool false, Sh.co (Sh.int .i64) (List.getD (PV.cells (enc y0)) 0 default), Sh.co (Sh.sl 2) (List.getD (PV.cells (enc y0)) (0 + 1) default)]]))))]))) else ((List.length (List.map enc ts) == q) = true ∧ (G ((.sl 3 false (List.drop 0 (List.take q (List.map enc ts)))))))) : At T_rfacts 0 (endP' rs_rfacts G) ic_rfacts 0 20 [(0, .pv (enc ls)), (3, .row 0 q 0 q), (4, .pv (.int .i64 i))] [.obj (.row false 83 3 (ts.map enc))] := At.tp (.lit (.ask (.req (.abs (Lin) (fun YY => AV.pv (PV.rptr (PV.cells ((enc) YY)))) (.lit (.lit (.lit (.req (.lit (.nil)))))))) (.req (.nil)))) h (by kernel_rfl)
def ic_provn : IC := (.seq (.reg [⟨(some 4), (.box 2 (.t 1)), 0, none⟩, ⟨(some 5), (.box 5 (.t 2)), 1, none⟩, ⟨(some 6), (.mv (.c (.int .i64 0))), 2, none⟩] none) (.seq (.reg [⟨(some 7), (.mv (.c (.sl 0 true []))), 0, none⟩] none) (.seq (.seq (.reg [⟨(some 12), (.mv (.t 0)), 0, none⟩, ⟨(some 13), (.len 1 (.t 12)), 0, none⟩, ⟨(some 14), (.mv (.c (.int .i64 0))), 0, none⟩] none) (.block 0 (.loop [14, 13, 12, 7, 4, 5] (.seq (.reg [⟨(some 15), (.bin .num .lss (.t 14) (.t 13)), 0, none⟩] none) (.seq (.cond (.t 15) .skip (.exit 0)) (.seq (.block 1 (.seq (.reg [⟨(some 16), (.iaddr 2 (.t 12) (.t 14)), 0, none⟩, ⟨(some 17), (.load true [(.int .i64), (.sl 2)] (.t 16)), 0, none⟩, ⟨(some 9), (.alloc (.agg [(.int .i64 0), (.sl 0 true [])])), 0, none⟩, ⟨none, (.store 2 (.t 9) (.t 17)), 1, none⟩] none) (.reg [⟨(some 18), (.mv (.t 7)), 0, none⟩, ⟨(some 19), (.load true [(.int .i64), (.sl 2)] (.t 9)), 0, none⟩, ⟨(some 20), (.build [(.bool false), (.int .i64 0), (.sl 0 true [])] [(1, (2, (.t 19)))]), 0, none⟩, ⟨(some 21), (.bslice 83 3 1 (.agg [(.bool false), (.int .i64 0), (.sl 0 true [])]) [(0, (.t 20))]), 0, none⟩, ⟨(some 22), (.append 83 3 40 (.t 18) (.t 21)), 1, none⟩, ⟨(some 7), (.mv (.t 22)), 2, none⟩] none))) (.reg [⟨(some 23), (.bin .num .add (.t 14) (.c (.int .i64 1))), 0, none⟩, ⟨(some 14), (.mv (.t 23)), 0, none⟩] none))))))) (.seq (.seq (.reg [⟨(some 24), (.mv (.t 7)), 0, none⟩, ⟨(some 25), (.call (.c (.fn 28)) [(.t 24)]), 0, none⟩, ⟨(some 26), (.un .not (.t 25)), 2, none⟩, ⟨(some 27), (.mv (.t 26)), 2, none⟩, ⟨(some 28), (.load true [(.int .i64), (.sl 2)] (.t 4)), 2, (some (27, false))⟩, ⟨(some 29), (.call (.c (.fn 67)) [(.t 28)]), 2, (some (27, false))⟩, ⟨(some 30), (.un .not (.t 29)), 4, (some (27, false))⟩, ⟨(some 31), (.pick (.t 27) (.c (.bool true)) (.t 30)), 4, none⟩] none) (.cond (.t 31) (.seq (.reg [⟨(some 6), (.mv (.c (.int .i64 1))), 0, none⟩] none) .ret) .skip)) (.seq (.reg [⟨(some 33), (.load true [(.int .i64), (.sl 2)] (.t 4)), 0, none⟩, ⟨(some 34), (.call (.c (.fn 21)) [(.t 33)]), 0, none⟩, ⟨(some 32), (.mv (.t 34)), 2, none⟩, ⟨(some 35), (.extract (.t 32) 0), 2, none⟩, ⟨(some 36), (.extract (.t 32) 1), 2, none⟩, ⟨(some 10), (.alloc (.agg [(.int .i64 0), (.sl 0 true [])])), 2, none⟩, ⟨none, (.store 2 (.t 10) (.t 35)), 3, none⟩, ⟨(some 11), (.mv (.t 36)), 3, none⟩] none) (.seq (.seq (.reg [⟨(some 37), (.mv (.t 11)), 0, none⟩, ⟨(some 38), (.bin .num .neq (.t 37) (.c (.int .i64 0))), 0, none⟩] none) (.cond (.t 38) (.seq (.reg [⟨(some 39), (.mv (.t 11)), 0, none⟩, ⟨(some 6), (.mv (.t 39)), 0, none⟩] none) .ret) .skip)) (.seq (.reg [⟨(some 40), (.mv (.t 7)), 0, none⟩, ⟨(some 41), (.load true [(.int .i64), (.sl 2)] (.t 10)), 0, none⟩, ⟨(some 42), (.build [(.bool false), (.int .i64 0), (.sl 0 true [])] [(1, (2, (.t 41)))]), 0, none⟩, ⟨(some 43), (.bslice 83 3 1 (.agg [(.bool false), (.int .i64 0), (.sl 0 true [])]) [(0, (.t 42))]), 0, none⟩, ⟨(some 44), (.append 83 3 40 (.t 40) (.t 43)), 1, none⟩, ⟨(some 45), (.load true [(.int .i64), (.sl 1), (.int .i64), (.sl 2), (.sl 5)] (.t 5)), 2, none⟩, ⟨(some 46), (.call (.c (.fn 15)) [(.t 44), (.t 45)]), 2, none⟩, ⟨(some 6), (.mv (.t 46)), 4, none⟩] (some [[], [], [1], [2, 1], [0, 3, 2, 1], [], [4, 5, 0, 3, 2, 1], [6, 0, 1, 2, 3, 4, 5]])) .ret)))))))
def rs_provn : List IRes := [(.tmp 6)]
abbrev nt_provn : Nat := 47
def T_provn : Tab := tab [(28, .pure (preT (fun x : List Fact × Unit => factsSm x.1)) (valT (fun x : List Fact × Unit => valid7 x.1))), (67, .pure (preT (fun x : Lin × Unit => linSm x.1)) (valT (fun x : Lin × Unit => validL x.1))), (21, .pure (preT (fun x : Lin × Unit => linSm x.1)) (valT (fun x : Lin × Unit => negL x.1))), (15, .pure (preT (fun x : List Fact × Cert × Unit => factsSm x.1 && cSm x.2.1 && decide (x.1.length + depC x.2.1 <= 300))) (valT (fun x : List Fact × Cert × Unit => checkC x.1 x.2.1)))]
theorem provn_s {G : PV -> Prop} (hs : List Lin) (g : Lin) (k : Int) (m : List Int) (l : Lin) (ks : List Cert) (h : At T_provn 0 (endP' rs_provn G) ic_provn 0 47 [(4, (.ptr 0 0)), (5, (.ptr 1 0)), (7, (.pv (.sl 0 true []))), (12, (.pv (.sl 2 false (List.map enc hs)))), (13, (.pv (.int .i64 (↑(List.length (List.map enc hs)) : Int)))), (14, (.pv (.int .i64 0)))] [(.obj (.box [(.pv (.int .i64 g.k)), (.pv (.sl 2 false (List.map enc g.t)))])), (.obj (.box [(.pv (.int .i64 k)), (.pv (.sl 1 false (List.map enc m))), (.pv (.int .i64 l.k)), (.pv (.sl 2 false (List.map enc l.t))), (.pv (.sl 5 false (List.map enc ks)))]))]) : Gets T_provn 0 (endP' rs_provn G) ic_provn [] (st0 47 [enc hs, enc g, .agg [enc k, enc m, enc l.k, enc l.t, enc ks]]) := Gets.tp (.nil) h (by kernel_rfl)
theorem provn_h0a {G : PV -> Prop} (hs : List Lin) (g : Lin) (k : Int) (m : List Int) (l : Lin) (ks : List Cert) (i : Int) (h : if (decide (i < (↑(List.length hs) : Int))) = true then (decide (0 <= i) && decide (Int.toNat i < List.length (List.map enc hs)) && Enc.sz Lin == 2) = true ∧ (∃ y0 : Lin, AV.pv (PV.rptr (PV.cells (List.getD (List.map enc hs) (Int.toNat i) default))) = AV.pv (PV.rptr (PV.cells ((enc) y0))) ∧ (At T_provn 0 (endP' rs_provn G) ic_provn 0 47 [(4, (.ptr 0 0)), (5, (.ptr 1 0)), (7, (.row 2 1 0 1)), (12, (.pv (.sl 2 false (List.map enc hs)))), (13, (.pv (.int .i64 (↑(List.length hs) : Int)))), (14, (.pv (.int .i64 (IntKind.wrap IntKind.i64 (i + 1)))))] [(.obj (.box [(.pv (.int .i64 g.k)), (.pv (.sl 2 false (List.map enc g.t)))])), (.obj (.box [(.pv (.int .i64 k)), (.pv (.sl 1 false (List.map enc m))), (.pv (.int .i64 l.k)), (.pv (.sl 2 false (List.map enc l.t))), (.pv (.sl 5 false (List.map enc ks)))])), (.obj (.row false 83 3 [(.agg [(.bool false), (.int .i64 (PV.asInt (List.getD (PV.cells (enc y0)) 0 default))), (.sl 2 false (PV.asXs (List.getD (PV.cells (enc y0)) (0 + 1) default)))])]))])) else (∃ y1 : Bool, AV.pv (valT (fun (x : List Fact × Unit) => valid7 x.1) [(.sl 0 true [])]) = AV.pv (enc y1) ∧ (if (!y1) = true then G ((.int .i64 1)) else ((Go.Pl.preT (fun (x : Lin × Unit) => linSm x.1) [(.agg [(.int .i64 g.k), (.sl 2 false (List.map enc g.t))])]) = true ∧ (∃ y2 : Bool, AV.pv (valT (fun (x : Lin × Unit) => validL x.1) [(.agg [(.int .i64 g.k), (.sl 2 false (List.map enc g.t))])]) = AV.pv (enc y2) ∧ (if (!y2) = true then G ((.int .i64 1)) else ((Go.Pl.preT (fun (x : Lin × Unit) => linSm x.1) [(.agg [(.int .i64 g.k), (.sl 2 false (List.map enc g.t))])]) = true ∧ (∃ y3 : Lin × Int, AV.pv (valT (fun (x : Lin × Unit) => negL x.1) [(.agg [(.int .i64 g.k), (.sl 2 false (List.map enc g.t))])]) = AV.pv (enc y3) ∧ (if (y3.2 != 0) = true then G ((.int .i64 y3.2)) else ((Go.Pl.preT (fun (x : List Fact × Cert × Unit) => factsSm x.1 && cSm x.2.1 && decide (List.length x.1 + depC x.2.1 <= 300)) [(.sl 3 false [(.agg [(.bool false), (.int .i64 y3.1.k), (.sl 2 false (List.map enc y3.1.t))])]), (.agg [(.int .i64 k), (.sl 1 false (List.map enc m)), (.int .i64 l.k), (.sl 2 false (List.map enc l.t)), (.sl 5 false (List.map enc ks))])]) = true ∧ (∃ y4 : Int, AV.pv (valT (fun (x : List Fact × Cert × Unit) => checkC x.1 x.2.1) [(.sl 3 false [(.agg [(.bool false), (.int .i64 y3.1.k), (.sl 2 false (List.map enc y3.1.t))])]), (.agg [(.int .i64 k), (.sl 1 false (List.map enc m)), (.int .i64 l.k), (.sl 2 false (List.map enc l.t)), (.sl 5 false (List.map enc ks))])]) = AV.pv (enc y4) ∧ (G ((.int .i64 y4)))))))))))))) : At T_provn 0 (endP' rs_provn G) ic_provn 0 47 [(4, .ptr 0 0), (5, .ptr 1 0), (7, .pv (.sl 0 true [])), (12, .pv (enc hs)), (13, .pv (.int .i64 hs.length)), (14, .pv (.int .i64 i))] [.obj (.box [.pv (.int .i64 g.k), .pv (enc g.t)]), .obj (.box [.pv (enc k), .pv (enc m), .pv (enc l.k), .pv (enc l.t), .pv (enc ks)])] := At.tp (.lit (.ask (.req (.abs (Lin) (fun YY => AV.pv (PV.rptr (PV.cells ((enc) YY)))) (.lit (.lit (.lit (.lit (.lit (.lit (.lit (.nil)))))))))) (.lit (.abs (Bool) (fun YY => AV.pv (enc YY)) (.ask (.lit (.lit (.lit (.lit (.nil))))) (.lit (.req (.abs (Bool) (fun YY => AV.pv (enc YY)) (.lit (.lit (.ask (.nil) (.req (.abs (Lin × Int) (fun YY => AV.pv (enc YY)) (.lit (.ask (.nil) (.lit (.lit (.lit (.lit (.lit (.lit (.req (.abs (Int) (fun YY => AV.pv (enc YY)) (.nil)))))))))))))))))))))))) h (by kernel_rfl)
def ic_proves : IC := ic_provn
def rs_proves : List IRes := [(.tmp 6)]
abbrev nt_proves : Nat := 47
def T_proves : Tab := tab [(28, .own pre_cvR val_cvR), (67, .pure (preT (fun x : Lin × Unit => linSm x.1)) (valT (fun x : Lin × Unit => validL x.1))), (21, .pure (preT (fun x : Lin × Unit => linSm x.1)) (valT (fun x : Lin × Unit => negL x.1))), (15, .pure (preT (fun x : List Fact × Cert × Unit => factsSm x.1 && cSm x.2.1 && decide (x.1.length + depC x.2.1 <= 300))) (valT (fun x : List Fact × Cert × Unit => checkC x.1 x.2.1)))]
theorem proves_s {G : PV -> Prop} (hs : List Lin) (g : Lin) (k : Int) (m : List Int) (l : Lin) (ks : List Cert) (h : At T_proves 0 (endP' rs_proves G) ic_proves 0 47 [(4, (.ptr 0 0)), (5, (.ptr 1 0)), (7, (.pv (.sl 0 true []))), (12, (.pv (.sl 2 false (List.map enc hs)))), (13, (.pv (.int .i64 (↑(List.length (List.map enc hs)) : Int)))), (14, (.pv (.int .i64 0)))] [(.obj (.box [(.pv (.int .i64 g.k)), (.pv (.sl 2 false (List.map enc g.t)))])), (.obj (.box [(.pv (.int .i64 k)), (.pv (.sl 1 false (List.map enc m))), (.pv (.int .i64 l.k)), (.pv (.sl 2 false (List.map enc l.t))), (.pv (.sl 5 false (List.map enc ks)))]))]) : Gets T_proves 0 (endP' rs_proves G) ic_proves [] (st0 47 [enc hs, enc g, .agg [enc k, enc m, enc l.k, enc l.t, enc ks]]) := Gets.tp (.nil) h (by kernel_rfl)
-- IMPOSSIBLE
theorem proves_h0a {G : PV -> Prop} (hs : List Lin) (g : Lin) (k : Int) (m : List Int) (l : Lin) (ks : List Cert) (i : Int) (h : if (decide (i < (↑(List.length hs) : Int))) = true then (decide (0 <= i) && decide (Int.toNat i < List.length (List.map enc hs)) && Enc.sz Lin == 2) = true ∧ (∃ y0 : Lin, AV.pv (PV.rptr (PV.cells (List.getD (List.map enc hs) (Int.toNat i) default))) = AV.pv (PV.rptr (PV.cells ((enc) y0))) ∧ (At T_proves 0 (endP' rs_proves G) ic_proves 0 47 [(4, (.ptr 0 0)), (5, (.ptr 1 0)), (7, (.row 2 1 0 1)), (12, (.pv (.sl 2 false (List.map enc hs)))), (13, (.pv (.int .i64 (↑(List.length hs) : Int)))), (14, (.pv (.int .i64 (IntKind.wrap IntKind.i64 (i + 1)))))] [(.obj (.box [(.pv (.int .i64 g.k)), (.pv (.sl 2 false (List.map enc g.t)))])), (.obj (.box [(.pv (.int .i64 k)), (.pv (.sl 1 false (List.map enc m))), (.pv (.int .i64 l.k)), (.pv (.sl 2 false (List.map enc l.t))), (.pv (.sl 5 false (List.map enc ks)))])), (.obj (.row false 83 3 [(.agg [(.bool false), (.int .i64 (PV.asInt (List.getD (PV.cells (enc y0)) 0 default))), (.sl 2 false (PV.asXs (List.getD (PV.cells (enc y0)) (0 + 1) default)))])]))])) else (False)) : At T_proves 0 (endP' rs_proves G) ic_proves 0 47 [(4, .ptr 0 0), (5, .ptr 1 0), (7, .pv (.sl 0 true [])), (12, .pv (enc hs)), (13, .pv (.int .i64 hs.length)), (14, .pv (.int .i64 i))] [.obj (.box [.pv (.int .i64 g.k), .pv (enc g.t)]), .obj (.box [.pv (enc k), .pv (enc m), .pv (enc l.k), .pv (enc l.t), .pv (enc ks)])] := At.tp (.lit (.ask (.req (.abs (Lin) (fun YY => AV.pv (PV.rptr (PV.cells ((enc) YY)))) (.lit (.lit (.lit (.lit (.lit (.lit (.lit (.nil)))))))))) (.lit (.nil)))) h (by kernel_rfl)
theorem proves_h0b {G : PV -> Prop} (hs : List Lin) (g : Lin) (k : Int) (m : List Int) (l : Lin) (ks : List Cert) (q : Nat) (ts : List Fact) (i : Int) (h : if (decide (i < (↑(List.length hs) : Int))) = true then (decide (0 <= i) && decide (Int.toNat i < List.length (List.map enc hs)) && Enc.sz Lin == 2) = true ∧ (∃ y0 : Lin, AV.pv (PV.rptr (PV.cells (List.getD (List.map enc hs) (Int.toNat i) default))) = AV.pv (PV.rptr (PV.cells ((enc) y0))) ∧ ((List.length (List.map enc ts) == q && q == q && decide ((q + List.length (List.drop 0 (List.take 1 [PV.agg [PV.bool false, Sh.co (Sh.int .i64) (List.getD (PV.cells (enc y0)) 0 default), Sh.co (Sh.sl 2) (List.getD (PV.cells (enc y0)) (0 + 1) default)]]))) * 40 <= 1099511627776) && decide (q + List.length (List.drop 0 (List.take 1 [PV.agg [PV.bool false, Sh.co (Sh.int .i64) (List.getD (PV.cells (enc y0)) 0 default), Sh.co (Sh.sl 2) (List.getD (PV.cells (enc y0)) (0 + 1) default)]])) <= 1099511627776)) = true ∧ (At T_proves 0 (endP' rs_proves G) ic_proves 0 47 [(4, (.ptr 0 0)), (5, (.ptr 1 0)), (7, (.row 2 (q + List.length (List.drop 0 (List.take 1 [PV.agg [PV.bool false, Sh.co (Sh.int .i64) (List.getD (PV.cells (enc y0)) 0 default), Sh.co (Sh.sl 2) (List.getD (PV.cells (enc y0)) (0 + 1) default)]]))) 0 (q + List.length (List.drop 0 (List.take 1 [PV.agg [PV.bool false, Sh.co (Sh.int .i64) (List.getD (PV.cells (enc y0)) 0 default), Sh.co (Sh.sl 2) (List.getD (PV.cells (enc y0)) (0 + 1) default)]]))))), (12, (.pv (.sl 2 false (List.map enc hs)))), (13, (.pv (.int .i64 (↑(List.length hs) : Int)))), (14, (.pv (.int .i64 (IntKind.wrap IntKind.i64 (i + 1)))))] [(.obj (.box [(.pv (.int .i64 g.k)), (.pv (.sl 2 false (List.map enc g.t)))])), (.obj (.box [(.pv (.int .i64 k)), (.pv (.sl 1 false (List.map enc m))), (.pv (.int .i64 l.k)), (.pv (.sl 2 false (List.map enc l.t))), (.pv (.sl 5 false (List.map enc ks)))])), (.obj (.row false 83 3 (List.map enc ts ++ List.drop 0 (List.take 1 [PV.agg [PV.bool false, Sh.co (Sh.int .i64) (List.getD (PV.cells (enc y0)) 0 default), Sh.co (Sh.sl 2) (List.getD (PV.cells (enc y0)) (0 + 1) default)]]))))]))) else ((pre_cvR [(.row 0 q 0 q)] [(.row false 83 3 (List.map enc ts))]) = true ∧ (if (!valid7 (facR (List.map enc ts))) = true then G ((.int .i64 1)) else ((Go.Pl.preT (fun (x : Lin × Unit) => linSm x.1) [(.agg [(.int .i64 g.k), (.sl 2 false (List.map enc g.t))])]) = true ∧ (∃ y1 : Bool, AV.pv (valT (fun (x : Lin × Unit) => validL x.1) [(.agg [(.int .i64 g.k), (.sl 2 false (List.map enc g.t))])]) = AV.pv (enc y1) ∧ (if (!y1) = true then G ((.int .i64 1)) else ((Go.Pl.preT (fun (x : Lin × Unit) => linSm x.1) [(.agg [(.int .i64 g.k), (.sl 2 false (List.map enc g.t))])]) = true ∧ (∃ y2 : Lin × Int, AV.pv (valT (fun (x : Lin × Unit) => negL x.1) [(.agg [(.int .i64 g.k), (.sl 2 false (List.map enc g.t))])]) = AV.pv (enc y2) ∧ (if (y2.2 != 0) = true then G ((.int .i64 y2.2)) else ((List.length (List.map enc ts) == q && q == q && decide ((q + List.length (List.drop 0 (List.take 1 [PV.agg [PV.bool false, enc y2.1.k, enc y2.1.t]]))) * 40 <= 1099511627776) && decide (q + List.length (List.drop 0 (List.take 1 [PV.agg [PV.bool false, enc y2.1.k, enc y2.1.t]])) <= 1099511627776)) = true ∧ ((List.length (List.map enc ts ++ List.drop 0 (List.take 1 [PV.agg [PV.bool false, enc y2.1.k, enc y2.1.t]])) == q + List.length (List.drop 0 (List.take 1 [PV.agg [PV.bool false, enc y2.1.k, enc y2.1.t]]))) = true ∧ ((Go.Pl.preT (fun (x : List Fact × Cert × Unit) => factsSm x.1 && cSm x.2.1 && decide (List.length x.1 + depC x.2.1 <= 300)) [(.sl 3 false (List.drop 0 (List.take (q + List.length (List.drop 0 (List.take 1 [PV.agg [PV.bool false, enc y2.1.k, enc y2.1.t]]))) (List.map enc ts ++ List.drop 0 (List.take 1 [PV.agg [PV.bool false, enc y2.1.k, enc y2.1.t]]))))), (.agg [(.int .i64 k), (.sl 1 false (List.map enc m)), (.int .i64 l.k), (.sl 2 false (List.map enc l.t)), (.sl 5 false (List.map enc ks))])]) = true ∧ (∃ y3 : Int, AV.pv (valT (fun (x : List Fact × Cert × Unit) => checkC x.1 x.2.1) [(.sl 3 false (List.drop 0 (List.take (q + List.length (List.drop 0 (List.take 1 [PV.agg [PV.bool false, enc y2.1.k, enc y2.1.t]]))) (List.map enc ts ++ List.drop 0 (List.take 1 [PV.agg [PV.bool false, enc y2.1.k, enc y2.1.t]]))))), (.agg [(.int .i64 k), (.sl 1 false (List.map enc m)), (.int .i64 l.k), (.sl 2 false (List.map enc l.t)), (.sl 5 false (List.map enc ks))])]) = AV.pv (enc y3) ∧ (G ((.int .i64 y3)))))))))))))))) : At T_proves 0 (endP' rs_proves G) ic_proves 0 47 [(4, .ptr 0 0), (5, .ptr 1 0), (7, .row 2 q 0 q), (12, .pv (enc hs)), (13, .pv (.int .i64 hs.length)), (14, .pv (.int .i64 i))] [.obj (.box [.pv (.int .i64 g.k), .pv (enc g.t)]), .obj (.box [.pv (enc k), .pv (enc m), .pv (enc l.k), .pv (enc l.t), .pv (enc ks)]), .obj (.row false 83 3 (ts.map enc))] := At.tp (.lit (.ask (.req (.abs (Lin) (fun YY => AV.pv (PV.rptr (PV.cells ((enc) YY)))) (.lit (.lit (.lit (.req (.lit (.nil)))))))) (.req (.keep (.ask (.lit (.lit (.lit (.lit (.nil))))) (.lit (.req (.abs (Bool) (fun YY => AV.pv (enc YY)) (.lit (.lit (.ask (.nil) (.req (.abs (Lin × Int) (fun YY => AV.pv (enc YY)) (.lit (.ask (.nil) (.lit (.lit (.req (.req (.req (.abs (Int) (fun YY => AV.pv (enc YY)) (.nil)))))))))))))))))))))) h (by kernel_rfl)
end Go.Pl

namespace Go.Pl
open Go.RowKit
open Enc (enc dec is)
open EncL (encL decL isL)
theorem facR_enc (l : List Fact) : facR (l.map enc) = l := Enc.dec_enc l
theorem rowR_eq {n m : Nat} {xs : List PV} (h : rowR n m xs = true) : ∃ l : List Fact, xs = l.map enc ∧ m = n ∧ l.length = n ∧ factsSm l = true := by
 simp only [rowR, Bool.and_eq_true, beq_iff_eq] at h
 obtain ⟨⟨⟨h1, h2⟩, h3⟩, h4⟩ := h
 obtain ⟨l, hl⟩ := can_eq h3
 have hl : PV.sl 3 false xs = PV.sl 3 false (l.map enc) := hl
 injection hl with _ _ hx
 subst hx
 rw [facR_enc] at h4
 exact ⟨l, rfl, h1, by simpa using h2, h4⟩
theorem rowR_mk {l : List Fact} {n : Nat} (hn : l.length = n) (hs : factsSm l = true) : rowR n n (l.map enc) = true := by
 have hc : can (List Fact) (.sl 3 false (l.map enc)) = true := can_enc l
 simp only [rowR, hc, facR_enc, hs, List.length_map, hn]
 simp
theorem get_row {l : List Fact} {i : Nat} (h : i < l.length) : List.getD (List.map (enc : Fact -> PV) l) (0 + Int.toNat (i : Int)) default = enc l[i] := by simp [List.getD, h]
theorem ixr_loop (l : List Fact) (n : Nat) (hn : l.length = n) (hl : factsSm l = true) : ∀ (j i : Nat), j + i = n -> (∀ k (h : k < l.length), k < i -> (!(validL l[k].l)) = false) ->
  At T_ixr 1 (endO' 1 rs_ixr fun r => r = (.pv (.int .i64 (ixFind (fun f : Fact => !(validL f.l)) l)), [.row false 83 3 (l.map enc)], [])) ic_ixr 0 19 [(0, .row 0 n 0 n), (1, .pv (.fn 76)), (7, .pv (.int .i64 n)), (8, .pv (.int .i64 i))] [.obj (.row false 83 3 (l.map enc))] := by
 have hl' := hl
 simp only [factsSm, Bool.and_eq_true, decide_eq_true_eq, List.all_eq_true] at hl'
 intro j
 induction j with
 | zero =>
  intro i hi hno
  refine ixr_h0 l n i (iteF (lt_no' (by omega)) ?_)
  rw [ix_none _ _ (fun k hk => hno k hk (by omega))]
 | succ j ih =>
  intro i hi hno
  have hlt : i < l.length := by omega
  have hsm : linSm l[i].l = true := hl'.2 _ (List.getElem_mem hlt)
  refine ixr_h0 l n i (iteT (lt_ok' (by omega)) ?_)
  simp only [get_row hlt]
  refine ⟨by simp; omega, by simp; omega, rfl, pre_enc (l[i], ()) rfl hsm, ex_enc (l[i], ()) rfl (iteB (fun hb => ?_) fun hb => ?_)⟩
  ·rw [ix_step (fun f : Fact => !(validL f.l)) l i hlt hno hb]
  ·rw [next (by omega)]
   refine ih (i + 1) (by omega) fun k hk hki => ?_
   by_cases e : k = i
   ·subst e; exact hb
   ·exact hno k hk (by omega)
theorem ixr_run : ∀ args os, pre_ixR 76 args os = true -> Gets T_ixr os.length (endO' os.length rs_ixr fun r => r = val_ixR args os) ic_ixr [] (st0O nt_ixr args os) := by
 intro args os h
 unfold pre_ixR at h
 split at h
 ·rename_i n m g ty xs
  simp only [Bool.and_eq_true, beq_iff_eq] at h
  obtain ⟨⟨rfl, rfl⟩, h3⟩ := h
  obtain ⟨l, rfl, rfl, hn, hl⟩ := rowR_eq h3
  have ev : val_ixR [.row 0 m 0 m, .pv (.fn 76)] [.row false 83 3 (l.map enc)] = (.pv (.int .i64 (ixFind (fun f : Fact => !(validL f.l)) l)), [.row false 83 3 (l.map enc)], []) := by
   show (AV.pv (.int .i64 (ixFind _ (facR (l.map enc)))), _, _) = _
   rw [facR_enc]
  rw [ev]
  exact ixr_s l m (ixr_loop l m hn hl m 0 rfl fun k _ h => by omega)
 ·cases h
theorem cfr_run : ∀ args os, pre_ixR 76 args os = true -> Gets T_cfr os.length (endO' os.length rs_cfr fun r => r = val_cfR args os) ic_cfr [] (st0O nt_cfr args os) := by
 intro args os h
 have h0 := h
 unfold pre_ixR at h
 split at h
 ·rename_i n m g ty xs
  simp only [Bool.and_eq_true, beq_iff_eq] at h
  obtain ⟨⟨rfl, rfl⟩, h3⟩ := h
  obtain ⟨l, rfl, rfl, hn, hl⟩ := rowR_eq h3
  refine cfr_s l m ⟨h0, ?_⟩
  rw [ixFind_nonneg]
  rfl
 ·cases h
theorem cvr_run : ∀ args os, pre_cvR args os = true -> Gets T_cvr os.length (endO' os.length rs_cvr fun r => r = val_cvR args os) ic_cvr [] (st0O nt_cvr args os) := by
 intro args os h
 unfold pre_cvR at h
 split at h
 ·rename_i n m ty xs
  simp only [Bool.and_eq_true, beq_iff_eq] at h
  obtain ⟨rfl, h3⟩ := h
  obtain ⟨l, rfl, rfl, hn, hl⟩ := rowR_eq h3
  refine cvr_s l m ⟨by simp only [pre_ixR, rowR_mk hn hl]; simp, ?_⟩
  show _ = (AV.pv (.bool (valid7 (facR (l.map enc)))), _, _)
  rw [facR_enc]
  have e : (!l.any fun f : Fact => !(validL f.l)) = valid7 l := by
   simp only [valid7, List.any_eq_not_all_not, Bool.not_not]
  rw [e]
 ·cases h
theorem rfacts_loop (ls : List Lin) (hl : ls.length <= 2000000) : ∀ (j i : Nat), j + i = ls.length -> 0 < i ->
  At T_rfacts 0 (endP' rs_rfacts (Fits (factsL ls))) ic_rfacts 0 20 [(0, .pv (enc ls)), (3, .row 0 i 0 i), (4, .pv (.int .i64 i))] [.obj (.row false 83 3 ((factsL (ls.take i)).map enc))] := by
 intro j
 induction j with
 | zero =>
  intro i hi h0
  refine rfacts_h0b ls i (factsL (ls.take i)) i (iteF (lt_no (by omega)) ⟨by simp [factsL]; omega, ?_⟩)
  have e : ls.take i = ls := List.take_of_length_le (by omega)
  rw [e, List.drop_zero, List.take_of_length_le (by simp [factsL]; omega)]
  exact fits_of (x := factsL ls) rfl
 | succ j ih =>
  intro i hi h0
  have hlt : i < ls.length := by omega
  refine rfacts_h0b ls i (factsL (ls.take i)) i (iteT (lt_ok hlt) ⟨idx_ok hlt rfl, el_ex hlt ⟨by simp [factsL]; omega, ?_⟩⟩)
  have h := ih (i + 1) (by omega) (by omega)
  have et : factsL (ls.take (i + 1)) = factsL (ls.take i) ++ [⟨false, ls[i]⟩] := by
   unfold factsL
   rw [List.take_add_one, List.getElem?_eq_getElem hlt, List.map_append]
   rfl
  rw [et, List.map_append] at h
  rw [next (by omega)]
  exact h
theorem rfacts_run : ∀ a : List Lin × Unit, decide (a.1.length <= 2000000) = true -> Gets T_rfacts 0 (endP' rs_rfacts (Fits (factsL a.1))) ic_rfacts [] (st0 nt_rfacts (encL a)) := by
 rintro ⟨ls, ⟨⟩⟩ h
 have hl : ls.length <= 2000000 := by simpa using h
 refine rfacts_s ls (rfacts_h0a ls 0 (iteD (fun h0 => ?_) fun h0 => ?_))
 ·have hlt : 0 < ls.length := by simpa using h0
  refine ⟨idx_ok (i := 0) hlt rfl, el_ex (i := 0) hlt ?_⟩
  have h := rfacts_loop ls hl (ls.length - 1) 1 (by omega) (by omega)
  have et : factsL (ls.take 1) = [⟨false, ls[0]⟩] := by
   cases ls with
   | nil => cases hlt
   | cons a r => rfl
  rw [et] at h
  exact h
 ·obtain rfl : ls = [] := by
   have : ¬ 0 < ls.length := by simpa using h0
   cases ls with
   | nil => rfl
   | cons a r => exact absurd (by simp) this
  exact ⟨rfl, rfl⟩
end Go.Pl

namespace Go.Pl
open Go.RowKit
open Enc (enc dec is)
open EncL (encL decL isL)
theorem proves_end {hs : List Lin} {g : Lin} {c : Cert} (hp : provesPre hs g c = true) (hv : valid7 (factsL hs) = true) (hg : (negL g).2 = 0) : (factsSm (moreF (factsL hs) (negL g).1) && cSm c && decide ((moreF (factsL hs) (negL g).1).length + depC c <= 300)) = true := by
 simp only [provesPre, Bool.and_eq_true, decide_eq_true_eq] at hp
 obtain ⟨⟨⟨⟨h1, h2⟩, h3⟩, h4⟩, h5⟩ := hp
 have hl : (moreF (factsL hs) (negL g).1).length = hs.length + 1 := by simp [factsL, moreF]
 have hv2 : valid7 (moreF (factsL hs) (negL g).1) = true := by
  have := (neg_valid hg).2
  simp only [valid7, moreF, List.all_append, List.all_cons, List.all_nil, this, Bool.and_true, Bool.and_self]; exact hv
 rw [facts_sm hv2 (by omega), h4, hl, decide_eq_true (by omega)]
 rfl
theorem factsL_sm {hs : List Lin} (h1 : hs.length <= 2000000) (h2 : hs.all linSm = true) : factsSm (factsL hs) = true := by
 simp only [List.all_eq_true] at h2
 simp only [factsSm, factsL, List.length_map, Bool.and_eq_true, decide_eq_true_eq, List.all_eq_true, List.mem_map]
 refine ⟨by omega, ?_⟩
 rintro f ⟨l, hl, rfl⟩
 exact h2 l hl
theorem proves_loop (hs : List Lin) (g : Lin) (k : Int) (m : List Int) (l : Lin) (ks : List Cert) (hp : provesPre hs g (.mk k m l ks) = true) : ∀ (j i : Nat), j + i = hs.length -> 0 < i ->
  At T_proves 0 (endP' rs_proves (Fits (provesC hs g (.mk k m l ks)))) ic_proves 0 47 [(4, .ptr 0 0), (5, .ptr 1 0), (7, .row 2 i 0 i), (12, .pv (enc hs)), (13, .pv (.int .i64 hs.length)), (14, .pv (.int .i64 i))]
   [.obj (.box [.pv (.int .i64 g.k), .pv (enc g.t)]), .obj (.box [.pv (enc k), .pv (enc m), .pv (enc l.k), .pv (enc l.t), .pv (enc ks)]), .obj (.row false 83 3 ((factsL (hs.take i)).map enc))] := by
 have hp' := hp
 simp only [provesPre, Bool.and_eq_true, decide_eq_true_eq] at hp'
 obtain ⟨⟨⟨⟨h1, h2⟩, h3⟩, h4⟩, h5⟩ := hp'
 intro j
 induction j with
 | zero =>
  intro i hi h0
  have e : hs.take i = hs := List.take_of_length_le (by omega)
  rw [e]
  have hlen : (factsL hs).length = i := by simp [factsL]; omega
  refine proves_h0b hs g k m l ks i (factsL hs) i (iteF (lt_no' (by omega)) ⟨by simp only [pre_cvR, rowR_mk hlen (factsL_sm h1 h2)]; rfl, ?_⟩)
  rw [facR_enc]
  refine iteN (fun hv => ?_) fun hv => ⟨pre_enc (g, ()) rfl h3, ex_enc (g, ()) rfl (iteN (fun hg => ?_) fun hg => ⟨pre_enc (g, ()) rfl h3, ex_enc (g, ()) rfl (iteC (fun hn => ?_) fun hn => ?_)⟩)⟩
  ·exact fitI (by simp [provesC, hv])
  ·have hg : validL g = false := hg
   exact fitI (by simp [provesC, hv, hg])
  all_goals have hg : validL g = true := hg
  ·have hn : (negL g).2 ≠ 0 := by simpa using hn
   exact fitI (by simp [provesC, hv, hg, hn])
  ·have hn : (negL g).2 = 0 := by simpa using hn
   have e2 : List.drop 0 (List.take 1 [PV.agg [PV.bool false, enc (negL g).1.k, enc (negL g).1.t]]) = [enc (⟨false, (negL g).1⟩ : Fact)] := rfl
   have e3 : List.map (enc : Fact -> PV) (factsL hs) ++ [enc (⟨false, (negL g).1⟩ : Fact)] = (moreF (factsL hs) (negL g).1).map enc := by simp [moreF]
   have e4 : List.drop 0 (List.take (i + 1) ((moreF (factsL hs) (negL g).1).map (enc : Fact -> PV))) = (moreF (factsL hs) (negL g).1).map enc := by
    rw [List.drop_zero, List.take_of_length_le (by simp [hlen, moreF])]
   have ec : (.agg [.int .i64 k, .sl 1 false (List.map enc m), .int .i64 l.k, .sl 2 false (List.map enc l.t), .sl 5 false (List.map enc ks)] : PV) = enc (Cert.mk k m l ks) := (enc_cert k m l ks).symm
   have e5 : List.length [enc (⟨false, (negL g).1⟩ : Fact)] = 1 := rfl
   simp only [e2, e3, e5, e4, ec]
   refine ⟨by simp [hlen]; omega, by simp [hlen, moreF], pre_enc (moreF (factsL hs) (negL g).1, .mk k m l ks, ()) rfl (proves_end hp hv hn), ex_enc (moreF (factsL hs) (negL g).1, .mk k m l ks, ()) rfl (fitI ?_)⟩
   simp only [provesC, hv, hg, hn, if_true]
   rfl
 | succ j ih =>
  intro i hi h0
  have hlt : i < hs.length := by omega
  refine proves_h0b hs g k m l ks i (factsL (hs.take i)) i (iteT (lt_ok' (by omega)) ⟨idx_ok hlt rfl, el_ex hlt ⟨by simp [factsL]; omega, ?_⟩⟩)
  have h := ih (i + 1) (by omega) (by omega)
  have et : factsL (hs.take (i + 1)) = factsL (hs.take i) ++ [⟨false, hs[i]⟩] := by
   unfold factsL
   rw [List.take_add_one, List.getElem?_eq_getElem hlt, List.map_append]
   rfl
  rw [et, List.map_append] at h
  rw [next (by omega)]
  exact h
theorem proves_run (hs : List Lin) (g : Lin) (c : Cert) (hp : provesPre hs g c = true) (h0 : hs ≠ []) : Gets T_proves 0 (endP' rs_proves (Fits (provesC hs g c))) ic_proves [] (st0 nt_proves (encL (hs, g, c, ()))) := by
 obtain ⟨k, m, l, ks⟩ := c
 have e : (encL ((hs, g, Cert.mk k m l ks, ()) : List Lin × Lin × Cert × Unit) : List PV) = [enc hs, enc g, PV.agg [enc k, enc m, enc l.k, enc l.t, enc ks]] := by
  show [enc hs, enc g, enc (Cert.mk k m l ks)] = _
  rw [enc_cert]
 rw [e]
 have hlt : 0 < hs.length := List.length_pos_iff.2 h0
 have el : (List.map (enc : Lin -> PV) hs).length = hs.length := by simp
 refine proves_s hs g k m l ks ?_
 rw [el]
 refine proves_h0a hs g k m l ks 0 (iteT (by simp; omega) ⟨idx_ok (i := 0) hlt rfl, el_ex (i := 0) hlt ?_⟩)
 have h := proves_loop hs g k m l ks hp (hs.length - 1) 1 (by omega) (by omega)
 have et : factsL (hs.take 1) = [⟨false, hs[0]⟩] := by
  cases hs with
  | nil => cases hlt
  | cons a r => rfl
 rw [et] at h
 exact h
theorem provn_run (g : Lin) (c : Cert) (hp : provesPre [] g c = true) : Gets T_provn 0 (endP' rs_provn (Fits (provesC [] g c))) ic_provn [] (st0 nt_provn (encL (([], g, c, ()) : List Lin × Lin × Cert × Unit))) := by
 obtain ⟨k, m, l, ks⟩ := c
 have hp' := hp
 simp only [provesPre, Bool.and_eq_true, decide_eq_true_eq] at hp'
 obtain ⟨⟨⟨⟨h1, h2⟩, h3⟩, h4⟩, h5⟩ := hp'
 have e : (encL (([], g, Cert.mk k m l ks, ()) : List Lin × Lin × Cert × Unit) : List PV) = [enc ([] : List Lin), enc g, PV.agg [enc k, enc m, enc l.k, enc l.t, enc ks]] := by
  show [enc ([] : List Lin), enc g, enc (Cert.mk k m l ks)] = _
  rw [enc_cert]
 rw [e]
 have hv : valid7 (factsL []) = true := rfl
 have ec : (.agg [.int .i64 k, .sl 1 false (List.map enc m), .int .i64 l.k, .sl 2 false (List.map enc l.t), .sl 5 false (List.map enc ks)] : PV) = enc (Cert.mk k m l ks) := (enc_cert k m l ks).symm
 refine provn_s [] g k m l ks ?_
 refine provn_h0a [] g k m l ks 0 (iteF (by decide) (ex_val (([] : List Fact), ()) rfl (iteN (fun hv => by cases hv) fun _ => ⟨pre_enc (g, ()) rfl h3, ex_enc (g, ()) rfl (iteN (fun hg => ?_) fun hg => ⟨pre_enc (g, ()) rfl h3, ex_enc (g, ()) rfl (iteC (fun hn => ?_) fun hn => ?_)⟩)⟩)))
 ·have hg : validL g = false := hg
  exact fitI (by simp [provesC, hv, hg])
 all_goals have hg : validL g = true := hg
 ·have hn : (negL g).2 ≠ 0 := by simpa using hn
  exact fitI (by simp [provesC, hv, hg, hn])
 ·have hn : (negL g).2 = 0 := by simpa using hn
  simp only [ec]
  refine ⟨pre_enc (moreF (factsL []) (negL g).1, .mk k m l ks, ()) rfl (proves_end hp hv hn), ex_enc (moreF (factsL []) (negL g).1, .mk k m l ks, ()) rfl (fitI ?_)⟩
  simp only [provesC, hv, hg, hn, if_true]
  rfl
end Go.Pl

namespace Go.Pl
open Go.RowKit
open Enc (enc dec is)
open EncL (encL decL isL)
set_option maxRecDepth 100000
end Go.Pl

namespace Go.Pl
open Go.RowKit
open Enc (enc dec is)
open EncL (encL decL isL)
set_option maxRecDepth 100000
end Go.Pl

namespace Go.Pl
open Go.RowKit
open Enc (enc dec is)
open EncL (encL decL isL)
structure Cert2 where
 a : Cert
 b : Cert
instance : Enc Cert2 where
 sz := 10
 enc x := .agg (PV.cells (enc x.a) ++ PV.cells (enc x.b))
 dec | .agg [a, b, c, d, e, f, g, h, i, j] => ⟨dec (.agg [a, b, c, d, e]), dec (.agg [f, g, h, i, j])⟩ | _ => ⟨.mk 0 [] ⟨0, []⟩ [], .mk 0 [] ⟨0, []⟩ []⟩
 is | .agg [a, b, c, d, e, f, g, h, i, j] => is Cert (.agg [a, b, c, d, e]) && is Cert (.agg [f, g, h, i, j]) | _ => false
 is_enc v := by
  obtain ⟨⟨k, m, l, ks⟩, ⟨k', m', l', ks'⟩⟩ := v
  rw [enc_cert, enc_cert]
  show (is Cert (.agg [enc k, enc m, enc l.k, enc l.t, enc ks]) && is Cert (.agg [enc k', enc m', enc l'.k, enc l'.t, enc ks'])) = true
  rw [<- enc_cert, <- enc_cert, Enc.is_enc, Enc.is_enc]; rfl
 dec_enc v := by
  obtain ⟨⟨k, m, l, ks⟩, ⟨k', m', l', ks'⟩⟩ := v
  rw [enc_cert, enc_cert]
  show (⟨dec (.agg [enc k, enc m, enc l.k, enc l.t, enc ks]), dec (.agg [enc k', enc m', enc l'.k, enc l'.t, enc ks'])⟩ : Cert2) = _
  rw [<- enc_cert, <- enc_cert, Enc.dec_enc, Enc.dec_enc]
 sub p h := by
  cases p with
  | agg xs =>
   match xs, h with
   | [a, b, c, d, e, f, g, h', i, j], h =>
    simp only [Bool.and_eq_true] at h
    have h1 := Enc.sub (α := Cert) _ h.1
    have h2 := Enc.sub (α := Cert) _ h.2
    exact SubC.agg (h1.1.append h2.1)
  | _ => cases h
theorem few_sm {l : Lin} {n : Int} (h : few4 l n = true) (hl : linOk l = true) : linSm l = true := by
 simp only [few4, Bool.and_eq_true, List.all_eq_true, decide_eq_true_eq] at h
 simp only [linSm, hl, Bool.true_and, List.all_eq_true, decide_eq_true_eq]
 intro t ht
 have := h.1 t ht
 omega
mutual
theorem small_c : ∀ (c : Cert) (n : Int), n <= 12 -> smallC c n = true -> cOk c = true -> 1 <= n ∧ (depC c : Int) <= n ∧ 1 <= sizeC c ∧ sizeC c <= n ∧ cSm c = true
 | .mk k m l ks, n, hn, h, ho => by
  simp only [smallC, Bool.and_eq_true, Bool.not_eq_true', decide_eq_false_iff_not] at h
  obtain ⟨h1, h2, h3, h4, h5⟩ := h
  simp only [cOk, Bool.and_eq_true, decide_eq_true_eq] at ho
  obtain ⟨⟨⟨o1, o2⟩, o3⟩, o4⟩ := ho
  obtain ⟨a1, a2, a3, a4⟩ := small_cs ks n 1 (by omega) hn (by omega) (by omega) h5 o4
  rw [depC, sizeC]
  refine ⟨by omega, by omega, by omega, by omega, ?_⟩
  simp only [cSm, few_sm h2 o2, a4, decide_eq_true o1, decide_eq_true o3]
  rfl
theorem small_cs : ∀ (cs : List Cert) (n s : Int), 1 <= n -> n <= 12 -> 1 <= s -> s <= 100 - n -> smallCs cs n = true -> cOks cs = true -> (depCs cs : Int) <= n - 1 ∧ s <= sizeCs s cs ∧ sizeCs s cs <= s + n - 1 ∧ cSms cs = true
 | [], n, s, h1, h2, h3, h4, _, _ => by
  rw [depCs, sizeCs]
  exact ⟨by omega, by omega, by omega, rfl⟩
 | c :: cs, n, s, h1, h2, h3, h4, h, ho => by
  simp only [smallCs, Bool.and_eq_true] at h
  simp only [cOks, Bool.and_eq_true] at ho
  rw [w64_id (by omega) (by omega)] at h
  obtain ⟨b1, b2, b3, b4, b5⟩ := small_c c (n - 1) (by omega) h.1 ho.1
  have h' := h.2
  rw [w64_id (by omega) (by omega)] at h'
  obtain ⟨a1, a2, a3, a4⟩ := small_cs cs (n - sizeC c) (s + sizeC c) (by omega) (by omega) (by omega) (by omega) h' ho.2
  rw [depCs, sizeCs, w64_id (by omega) (by omega)]
  refine ⟨by omega, by omega, by omega, ?_⟩
  simp only [cSms, b5, a4]
  rfl
end
theorem more_valid {fs : List Fact} {l : Lin} (hv : valid7 fs = true) (hl : validL l = true) : valid7 (moreF fs l) = true := by
 simp only [valid7, moreF, List.all_append, List.all_cons, List.all_nil, hl, Bool.and_true, Bool.and_self]; exact hv
theorem more_len (fs : List Fact) (l : Lin) : (moreF fs l).length = fs.length + 1 := by simp [moreF]
theorem take_more (fs : List Fact) (l : Lin) : PV.sl 3 false (List.drop 0 (List.take (0 + List.length (List.map (enc : Fact -> PV) fs) + List.length (List.drop 0 (List.take 1 [PV.agg [PV.bool false, enc l.k, enc l.t]]))) (([] : List PV) ++ List.map enc fs ++ List.drop 0 (List.take 1 [PV.agg [PV.bool false, enc l.k, enc l.t]])))) = enc (moreF fs l) := by
 have e2 : List.drop 0 (List.take 1 [PV.agg [PV.bool false, enc l.k, enc l.t]]) = [enc (⟨false, l⟩ : Fact)] := rfl
 have e3 : ([] : List PV) ++ List.map enc fs ++ [enc (⟨false, l⟩ : Fact)] = (moreF fs l).map enc := by simp [moreF]
 rw [e2, e3, List.drop_zero, List.take_of_length_le (by simp [moreF])]
 rfl
theorem room3 (fs : List Fact) (l : Lin) : (List.length (([] : List PV) ++ List.map (enc : Fact -> PV) fs ++ List.drop 0 (List.take 1 [PV.agg [PV.bool false, enc l.k, enc l.t]])) == 0 + List.length (List.map (enc : Fact -> PV) fs) + List.length (List.drop 0 (List.take 1 [PV.agg [PV.bool false, enc l.k, enc l.t]]))) = true := by simp
theorem facts_few {fs : List Fact} (h : few7 fs 8 = true) (ho : factsOk fs = true) : factsSm fs = true ∧ fs.length <= 8 := by
 simp only [few7, Bool.and_eq_true, List.all_eq_true, decide_eq_true_eq] at h
 simp only [factsOk, Bool.and_eq_true, List.all_eq_true, decide_eq_true_eq] at ho
 refine ⟨?_, by omega⟩
 simp only [factsSm, Bool.and_eq_true, List.all_eq_true, decide_eq_true_eq]
 exact ⟨ho.1, fun f hf => few_sm (h.1 f hf) (ho.2 f hf)⟩
end Go.Pl

namespace Go.Pl
open Go.RowKit
open Enc (enc dec is)
open EncL (encL decL isL)
set_option maxRecDepth 100000
end Go.Pl

namespace Go.Pl
open Go.RowKit
open Enc (enc dec is)
open EncL (encL decL isL)
theorem fold_nodup : ∀ (qs : List (Int × Fact)) (n : Int) (m : List (Str × Int)), (keysM m).Nodup -> (keysM (qs.foldl cstep (n, m)).2).Nodup
 | [], n, m, h => h
 | q :: qs, n, m, h => by rw [List.foldl_cons]; exact fold_nodup qs _ _ (addT_nodup _ _ _ h)
theorem nz_nodup {m : List (Str × Int)} (h : (keysM m).Nodup) : (keysM (nzM m)).Nodup := List.Nodup.sublist (List.Sublist.map _ (List.filter_sublist)) h
theorem atM_mem : ∀ {m : List (Str × Int)}, (keysM m).Nodup -> ∀ p ∈ m, atM m p.1.s = p.2
 | q :: m, h, p, hp => by
  simp only [keysM, List.map_cons, List.nodup_cons] at h
  rcases List.mem_cons.1 hp with rfl | hp
  ·simp [atM]
  ·have : (q.1.s == p.1.s) = false := by
    simp only [beq_eq_false_iff_ne, ne_eq]
    intro e
    exact h.1 (e ▸ List.mem_map.2 ⟨p, hp, rfl⟩)
   have ih := atM_mem (m := m) h.2 p hp
   simp only [atM, List.find?_cons, this] at ih ⊢
   exact ih
end Go.Pl

namespace Go.Pl
open Go.RowKit
open Enc (enc dec is)
open EncL (encL decL isL)
end Go.Pl

namespace Go.Pl
open Go.RowKit
open Enc (enc dec is)
open EncL (encL decL isL)
end Go.Pl

