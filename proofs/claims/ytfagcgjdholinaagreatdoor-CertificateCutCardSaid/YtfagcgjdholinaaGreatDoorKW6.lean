/-
  Texts of mine that belong together (packed by pack.py), for every input: GLu, GLt, GLr, QRp, QRq, QRs, QRt, QRu, QRv, GLv, QRw, QRx.
-/
import Derived.Test.YtfagcgjdholinaaGreatDoorKW3
import Derived.Test.YtfagcgjdholinaaGreatDoorKW4
import Derived.Test.YtfagcgjdholinaaGreatDoorKW5
import Derived.KernelRfl
set_option linter.unusedVariables false
set_option linter.unusedSimpArgs false
namespace Go.Pl
open Go.RowKit
open Enc (enc dec is)
open EncL (encL decL isL)
set_option maxRecDepth 100000
def ic_rcutn : IC := (.seq (.reg [⟨(some 4), (.alloc (.agg [(.int .i64 0), (.sl 0 true [])])), 0, none⟩, ⟨(some 5), (.mv (.c (.int .i64 0))), 1, none⟩] none) (.seq (.seq (.reg [⟨(some 11), (.mv (.t 0)), 0, none⟩, ⟨(some 12), (.call (.c (.fn 29)) [(.t 11)]), 0, none⟩, ⟨(some 13), (.un .not (.t 12)), 2, none⟩] none) (.cond (.t 13) (.seq (.reg [⟨(some 14), (.build [(.int .i64 0), (.sl 0 true [])] []), 0, none⟩, ⟨none, (.store 2 (.t 4) (.t 14)), 0, none⟩, ⟨(some 5), (.mv (.c (.int .i64 1))), 0, none⟩] none) .ret) .skip)) (.seq (.reg [⟨(some 16), (.mv (.t 0)), 0, none⟩, ⟨(some 17), (.mv (.t 1)), 0, none⟩, ⟨(some 18), (.call (.c (.fn 72)) [(.t 16), (.t 17)]), 0, none⟩, ⟨(some 15), (.mv (.t 18)), 2, none⟩, ⟨(some 19), (.extract (.t 15) 0), 2, none⟩, ⟨(some 20), (.extract (.t 15) 1), 2, none⟩, ⟨(some 6), (.alloc (.agg [(.int .i64 0), (.sl 0 true [])])), 2, none⟩, ⟨none, (.store 2 (.t 6) (.t 19)), 3, none⟩, ⟨(some 7), (.mv (.t 20)), 3, none⟩] none) (.seq (.seq (.reg [⟨(some 21), (.mv (.t 7)), 0, none⟩, ⟨(some 22), (.un .not (.t 21)), 0, none⟩, ⟨(some 23), (.mv (.t 22)), 0, none⟩, ⟨(some 24), (.faddr 1 (.t 6)), 0, (some (23, false))⟩, ⟨(some 25), (.load false [(.sl 2)] (.t 24)), 0, (some (23, false))⟩, ⟨(some 26), (.len 1 (.t 25)), 0, (some (23, false))⟩, ⟨(some 27), (.bin .num .eql (.t 26) (.c (.int .i64 0))), 0, (some (23, false))⟩, ⟨(some 28), (.pick (.t 23) (.c (.bool true)) (.t 27)), 0, none⟩] none) (.cond (.t 28) (.seq (.reg [⟨(some 29), (.build [(.int .i64 0), (.sl 0 true [])] []), 0, none⟩, ⟨none, (.store 2 (.t 4) (.t 29)), 0, none⟩, ⟨(some 5), (.mv (.c (.int .i64 18))), 0, none⟩] none) .ret) .skip)) (.seq (.reg [⟨(some 8), (.mv (.c (.int .i64 0))), 0, none⟩] none) (.seq (.seq (.reg [⟨(some 9), (.mv (.c (.int .i64 0))), 0, none⟩] none) (.block 0 (.loop [9, 6, 8, 4] (.seq (.seq (.reg [⟨(some 30), (.mv (.t 9)), 0, none⟩, ⟨(some 31), (.faddr 1 (.t 6)), 0, none⟩, ⟨(some 32), (.load false [(.sl 2)] (.t 31)), 0, none⟩, ⟨(some 33), (.len 1 (.t 32)), 0, none⟩, ⟨(some 34), (.bin .num .lss (.t 30) (.t 33)), 0, none⟩] none) (.cond (.t 34) .skip (.exit 0))) (.seq (.block 1 (.reg [⟨(some 38), (.mv (.t 8)), 0, none⟩, ⟨(some 39), (.faddr 1 (.t 6)), 0, none⟩, ⟨(some 40), (.load false [(.sl 2)] (.t 39)), 0, none⟩, ⟨(some 41), (.mv (.t 9)), 0, none⟩, ⟨(some 42), (.iaddr 2 (.t 40) (.t 41)), 0, none⟩, ⟨(some 43), (.faddr 1 (.t 42)), 0, none⟩, ⟨(some 44), (.load false [(.int .i64)] (.t 43)), 0, none⟩, ⟨(some 45), (.call (.c (.fn 73)) [(.t 38), (.t 44)]), 0, none⟩, ⟨(some 37), (.mv (.t 45)), 2, none⟩, ⟨(some 46), (.extract (.t 37) 0), 2, none⟩, ⟨(some 47), (.extract (.t 37) 1), 2, none⟩, ⟨(some 8), (.mv (.t 46)), 2, none⟩] none)) (.reg [⟨(some 35), (.mv (.t 9)), 0, none⟩, ⟨(some 36), (.bin .num .add (.t 35) (.c (.int .i64 1))), 0, none⟩, ⟨(some 9), (.mv (.t 36)), 0, none⟩] none)))))) (.seq (.seq (.reg [⟨(some 10), (.mv (.c (.int .i64 0))), 0, none⟩] none) (.block 2 (.loop [10, 6, 8, 4] (.seq (.seq (.reg [⟨(some 48), (.mv (.t 10)), 0, none⟩, ⟨(some 49), (.faddr 1 (.t 6)), 0, none⟩, ⟨(some 50), (.load false [(.sl 2)] (.t 49)), 0, none⟩, ⟨(some 51), (.len 1 (.t 50)), 0, none⟩, ⟨(some 52), (.bin .num .lss (.t 48) (.t 51)), 0, none⟩] none) (.cond (.t 52) .skip (.exit 2))) (.seq (.block 3 (.reg [⟨(some 55), (.faddr 1 (.t 6)), 0, none⟩, ⟨(some 56), (.load false [(.sl 2)] (.t 55)), 0, none⟩, ⟨(some 57), (.mv (.t 10)), 0, none⟩, ⟨(some 58), (.iaddr 2 (.t 56) (.t 57)), 0, none⟩, ⟨(some 59), (.faddr 1 (.t 58)), 0, none⟩, ⟨(some 60), (.load false [(.int .i64)] (.t 59)), 0, none⟩, ⟨(some 61), (.mv (.t 8)), 0, none⟩, ⟨(some 62), (.bin .num .quo (.t 60) (.t 61)), 0, none⟩, ⟨(some 63), (.iaddr 2 (.t 56) (.t 57)), 0, none⟩, ⟨(some 64), (.faddr 1 (.t 63)), 0, none⟩, ⟨none, (.store 1 (.t 64) (.t 62)), 0, none⟩] none)) (.reg [⟨(some 53), (.mv (.t 10)), 0, none⟩, ⟨(some 54), (.bin .num .add (.t 53) (.c (.int .i64 1))), 0, none⟩, ⟨(some 10), (.mv (.t 54)), 0, none⟩] none)))))) (.seq (.reg [⟨(some 66), (.faddr 0 (.t 6)), 0, none⟩, ⟨(some 67), (.load false [(.int .i64)] (.t 66)), 0, none⟩, ⟨(some 68), (.mv (.t 8)), 0, none⟩, ⟨(some 69), (.call (.c (.fn 74)) [(.t 67), (.t 68)]), 0, none⟩, ⟨(some 65), (.mv (.t 69)), 2, none⟩, ⟨(some 70), (.extract (.t 65) 0), 2, none⟩, ⟨(some 71), (.extract (.t 65) 1), 2, none⟩, ⟨(some 72), (.faddr 0 (.t 6)), 2, none⟩, ⟨none, (.store 1 (.t 72) (.t 70)), 2, none⟩] none) (.seq (.seq (.reg [⟨(some 73), (.load true [(.int .i64), (.sl 2)] (.t 6)), 0, none⟩, ⟨(some 74), (.call (.c (.fn 36)) [(.t 73)]), 0, none⟩, ⟨(some 75), (.un .not (.t 74)), 2, none⟩] none) (.cond (.t 75) (.seq (.reg [⟨(some 76), (.build [(.int .i64 0), (.sl 0 true [])] []), 0, none⟩, ⟨none, (.store 2 (.t 4) (.t 76)), 0, none⟩, ⟨(some 5), (.mv (.c (.int .i64 3))), 0, none⟩] none) .ret) .skip)) (.seq (.reg [⟨(some 77), (.load true [(.int .i64), (.sl 2)] (.t 6)), 0, none⟩, ⟨none, (.store 2 (.t 4) (.t 77)), 0, none⟩, ⟨(some 5), (.mv (.c (.int .i64 0))), 0, none⟩] none) .ret))))))))))
def rs_rcutn : List IRes := [(.cell true 2 4), (.tmp 5)]
abbrev nt_rcutn : Nat := 78
def T_rcutn : Tab := tab [(29, .pure (preT (fun x : List Fact × Unit => factsSm x.1)) (valT (fun x : List Fact × Unit => valid7 x.1))), (72, .own pre_rcN val_rcN), (73, .pure (preT (fun x : Int × Int × Unit => inR x.1 && inR x.2.1)) (valT (fun x : Int × Int × Unit => gcdP x.1 x.2.1))), (74, .pure (preT (fun _ : Int × Int × Unit => true)) (valT (fun x : Int × Int × Unit => divI x.1 x.2.1))), (36, .pure (preT (fun x : Lin × Unit => linOk x.1)) (valT (fun x : Lin × Unit => validL x.1)))]
theorem rcutn_s {G : PV → Prop} (fs : List Fact) (ms : List Int) (h : (Go.Pl.preT (fun (x : List Fact × Unit) => factsSm x.1) [(.sl 3 false (List.map enc fs))]) = true ∧ (∃ y0 : Bool, AV.pv (valT (fun (x : List Fact × Unit) => valid7 x.1) [(.sl 3 false (List.map enc fs))]) = AV.pv (enc y0) ∧ (if (!y0) = true then G ((.tup [(.agg [(.int .i64 0), (.sl 0 true [])]), (.int .i64 1)])) else ((pre_rcN [(.pv (.sl 3 false (List.map enc fs))), (.pv (.sl 1 false (List.map enc ms)))] []) = true ∧ (G ((.tup [(.agg [(.int .i64 0), (.sl 0 true [])]), (.int .i64 18)]))))))) : Gets T_rcutn 0 (endP' rs_rcutn G) ic_rcutn [] (st0 78 [enc fs, enc ms]) := Gets.tp (.req (.abs (Bool) (fun YY => AV.pv (enc YY)) (.ask (.nil) (.req (.keep (.lit (.lit (.lit (.lit (.lit (.lit (.nil)))))))))))) h (by kernel_rfl)
def ic_rcutz : IC := ic_rcutn
def rs_rcutz : List IRes := [(.cell true 2 4), (.tmp 5)]
abbrev nt_rcutz : Nat := 78
def T_rcutz : Tab := tab [(29, .pure (preT (fun x : List Fact × Unit => factsSm x.1)) (valT (fun x : List Fact × Unit => valid7 x.1))), (72, .own pre_rcZ val_rcZ), (73, .pure (preT (fun x : Int × Int × Unit => inR x.1 && inR x.2.1)) (valT (fun x : Int × Int × Unit => gcdP x.1 x.2.1))), (74, .pure (preT (fun _ : Int × Int × Unit => true)) (valT (fun x : Int × Int × Unit => divI x.1 x.2.1))), (36, .pure (preT (fun x : Lin × Unit => linOk x.1)) (valT (fun x : Lin × Unit => validL x.1)))]
theorem rcutz_s {G : PV → Prop} (fs : List Fact) (ms : List Int) (h : (Go.Pl.preT (fun (x : List Fact × Unit) => factsSm x.1) [(.sl 3 false (List.map enc fs))]) = true ∧ (∃ y0 : Bool, AV.pv (valT (fun (x : List Fact × Unit) => valid7 x.1) [(.sl 3 false (List.map enc fs))]) = AV.pv (enc y0) ∧ (if (!y0) = true then G ((.tup [(.agg [(.int .i64 0), (.sl 0 true [])]), (.int .i64 1)])) else ((pre_rcZ [(.pv (.sl 3 false (List.map enc fs))), (.pv (.sl 1 false (List.map enc ms)))] []) = true ∧ (G ((.tup [(.agg [(.int .i64 0), (.sl 0 true [])]), (.int .i64 18)]))))))) : Gets T_rcutz 0 (endP' rs_rcutz G) ic_rcutz [] (st0 78 [enc fs, enc ms]) := Gets.tp (.req (.abs (Bool) (fun YY => AV.pv (enc YY)) (.ask (.nil) (.req (.keep (.lit (.lit (.lit (.lit (.lit (.lit (.lit (.nil))))))))))))) h (by kernel_rfl)
def ic_rcutr : IC := ic_rcutn
def rs_rcutr : List IRes := [(.cell true 2 4), (.tmp 5)]
abbrev nt_rcutr : Nat := 78
def T_rcutr : Tab := tab [(29, .pure (preT (fun x : List Fact × Unit => factsSm x.1)) (valT (fun x : List Fact × Unit => valid7 x.1))), (72, .own pre_rcR val_rcR), (73, .pure (preT (fun x : Int × Int × Unit => inR x.1 && inR x.2.1)) (valT (fun x : Int × Int × Unit => gcdP x.1 x.2.1))), (74, .pure (preT (fun _ : Int × Int × Unit => true)) (valT (fun x : Int × Int × Unit => divI x.1 x.2.1))), (36, .pure (preT (fun x : Lin × Unit => linOk x.1)) (valT (fun x : Lin × Unit => validL x.1)))]
theorem rcutr_s {G : PV → Prop} (fs : List Fact) (ms : List Int) (h : (Go.Pl.preT (fun (x : List Fact × Unit) => factsSm x.1) [(.sl 3 false (List.map enc fs))]) = true ∧ (∃ y0 : Bool, AV.pv (valT (fun (x : List Fact × Unit) => valid7 x.1) [(.sl 3 false (List.map enc fs))]) = AV.pv (enc y0) ∧ (if (!y0) = true then G ((.tup [(.agg [(.int .i64 0), (.sl 0 true [])]), (.int .i64 1)])) else ((pre_rcR [(.pv (.sl 3 false (List.map enc fs))), (.pv (.sl 1 false (List.map enc ms)))] []) = true ∧ (if ((↑(LR.w (theR (dec (enc fs)) (dec (enc ms))) - 0) : Int) == 0) = true then G ((.tup [(.agg [(.int .i64 0), (.sl 0 true [])]), (.int .i64 18)])) else (At T_rcutr 0 (endP' rs_rcutr G) ic_rcutr 0 78 [(4, (.ptr 0 0)), (6, (.ptr 1 0)), (8, (.pv (.int .i64 0))), (9, (.pv (.int .i64 0)))] [(.obj (.box [(.pv (.int .i64 0)), (.pv (.sl 0 true []))])), (.obj (.box [(.pv (.int .i64 (LR.k (theR (dec (enc fs)) (dec (enc ms)))))), (.row 2 (List.length (LR.ts (theR (dec (enc fs)) (dec (enc ms))))) 0 (LR.w (theR (dec (enc fs)) (dec (enc ms)))))])), (.obj (.row false 87 2 (List.map enc (LR.ts (theR (dec (enc fs)) (dec (enc ms)))))))])))))) : Gets T_rcutr 0 (endP' rs_rcutr G) ic_rcutr [] (st0 78 [enc fs, enc ms]) := Gets.tp (.req (.abs (Bool) (fun YY => AV.pv (enc YY)) (.ask (.nil) (.req (.keep (.lit (.lit (.lit (.lit (.lit (.lit (.ask (.nil) (.nil))))))))))))) h (by kernel_rfl)
theorem rcutr_h0 {G : PV → Prop} (fs : List Fact) (ms : List Int) (c : Int) (q w : Nat) (ts : List Coef) (g i : Int) (h : if (decide (i < (↑(w - 0) : Int))) = true then (decide (0 ≤ i) && decide (0 + Int.toNat i < w) && List.length (List.map enc ts) == q) = true ∧ ((List.length (List.map enc ts) == q && decide (0 + Int.toNat i < List.length (List.map enc ts))) = true ∧ ((decide (0 + 1 + List.length [Sh.int .i64] ≤ List.length (PV.cells (List.getD (List.map enc ts) (0 + Int.toNat i) default))) && shFit (PV.cells (List.getD (List.map enc ts) (0 + Int.toNat i) default)) (0 + 1) [Sh.int .i64]) = true ∧ ((Go.Pl.preT (fun (x : Int × Int × Unit) => inR x.1 && inR x.2.1) [(.int .i64 g), (.int .i64 (PV.asInt (List.getD (PV.cells (List.getD (List.map enc ts) (0 + Int.toNat i) default)) (0 + 1) default)))]) = true ∧ (∃ y0 : Int × Int, AV.pv (valT (fun (x : Int × Int × Unit) => gcdP x.1 x.2.1) [(.int .i64 g), (.int .i64 (PV.asInt (List.getD (PV.cells (List.getD (List.map enc ts) (0 + Int.toNat i) default)) (0 + 1) default)))]) = AV.pv (enc y0) ∧ (At T_rcutr 0 (endP' rs_rcutr G) ic_rcutr 0 78 [(4, (.ptr 0 0)), (6, (.ptr 1 0)), (8, (.pv (.int .i64 y0.1))), (9, (.pv (.int .i64 (IntKind.wrap IntKind.i64 (i + 1)))))] [(.obj (.box [(.pv (.int .i64 0)), (.pv (.sl 0 true []))])), (.obj (.box [(.pv (.int .i64 c)), (.row 2 q 0 w)])), (.obj (.row false 87 2 (List.map enc ts)))]))))) else (At T_rcutr 0 (endP' rs_rcutr G) ic_rcutr 1 78 [(4, (.ptr 0 0)), (6, (.ptr 1 0)), (8, (.pv (.int .i64 g))), (10, (.pv (.int .i64 0)))] [(.obj (.box [(.pv (.int .i64 0)), (.pv (.sl 0 true []))])), (.obj (.box [(.pv (.int .i64 c)), (.row 2 q 0 w)])), (.obj (.row false 87 2 (List.map enc ts)))])) : At T_rcutr 0 (endP' rs_rcutr G) ic_rcutr 0 78 [(4, .ptr 0 0), (6, .ptr 1 0), (8, .pv (.int .i64 g)), (9, .pv (.int .i64 i))] [.obj (.box [.pv (.int .i64 0), .pv (.sl 0 true [])]), .obj (.box [.pv (.int .i64 c), .row 2 q 0 w]), .obj (.row false 87 2 (ts.map enc))] := At.tp (.lit (.ask (.req (.keep (.req (.req (.req (.abs (Int × Int) (fun YY => AV.pv (enc YY)) (.lit (.nil)))))))) (.nil))) h (by kernel_rfl)
theorem rcutr_h1 {G : PV → Prop} (fs : List Fact) (ms : List Int) (c : Int) (q w : Nat) (ts : List Coef) (g i : Int) (h : if (decide (i < (↑(w - 0) : Int))) = true then (decide (0 ≤ i) && decide (0 + Int.toNat i < w) && List.length (List.map enc ts) == q) = true ∧ ((List.length (List.map enc ts) == q && decide (0 + Int.toNat i < List.length (List.map enc ts))) = true ∧ ((decide (0 + 1 + List.length [Sh.int .i64] ≤ List.length (PV.cells (List.getD (List.map enc ts) (0 + Int.toNat i) default))) && shFit (PV.cells (List.getD (List.map enc ts) (0 + Int.toNat i) default)) (0 + 1) [Sh.int .i64]) = true ∧ ((g != 0) = true ∧ ((decide (0 ≤ i) && decide (0 + Int.toNat i < w) && List.length (List.map enc ts) == q) = true ∧ ((List.length (List.map enc ts) == q && decide (0 + Int.toNat i < List.length (List.map enc ts)) && List.length (PV.cells (PV.int .i64 (IntKind.wrap IntKind.i64 (Int.tdiv (PV.asInt (List.getD (PV.cells (List.getD (List.map enc ts) (0 + Int.toNat i) default)) (0 + 1) default)) g)))) == 1 && decide (0 + 1 + 1 ≤ List.length (PV.cells (List.getD (List.map enc ts) (0 + Int.toNat i) default))) && PV.cellsOk (PV.int .i64 (IntKind.wrap IntKind.i64 (Int.tdiv (PV.asInt (List.getD (PV.cells (List.getD (List.map enc ts) (0 + Int.toNat i) default)) (0 + 1) default)) g)))) = true ∧ (At T_rcutr 0 (endP' rs_rcutr G) ic_rcutr 1 78 [(4, (.ptr 0 0)), (6, (.ptr 1 0)), (8, (.pv (.int .i64 g))), (10, (.pv (.int .i64 (IntKind.wrap IntKind.i64 (i + 1)))))] [(.obj (.box [(.pv (.int .i64 0)), (.pv (.sl 0 true []))])), (.obj (.box [(.pv (.int .i64 c)), (.row 2 q 0 w)])), (.obj (.row false 87 2 (List.set (List.map enc ts) (0 + Int.toNat i) (PV.withCells (List.getD (List.map enc ts) (0 + Int.toNat i) default) (splice (PV.cells (List.getD (List.map enc ts) (0 + Int.toNat i) default)) (0 + 1) (PV.cells (PV.int .i64 (IntKind.wrap IntKind.i64 (Int.tdiv (PV.asInt (List.getD (PV.cells (List.getD (List.map enc ts) (0 + Int.toNat i) default)) (0 + 1) default)) g)))))))))])))))) else (∃ y0 : Int × Int, AV.pv (valT (fun (x : Int × Int × Unit) => divI x.1 x.2.1) [(.int .i64 c), (.int .i64 g)]) = AV.pv (enc y0) ∧ ((List.length (List.map enc ts) == q) = true ∧ ((Go.Pl.preT (fun (x : Lin × Unit) => linOk x.1) [(.agg [(.int .i64 y0.1), (.sl 2 false (List.drop 0 (List.take w (List.map enc ts))))])]) = true ∧ (∃ y1 : Bool, AV.pv (valT (fun (x : Lin × Unit) => validL x.1) [(.agg [(.int .i64 y0.1), (.sl 2 false (List.drop 0 (List.take w (List.map enc ts))))])]) = AV.pv (enc y1) ∧ (if (!y1) = true then G ((.tup [(.agg [(.int .i64 0), (.sl 0 true [])]), (.int .i64 3)])) else ((List.length (List.map enc ts) == q) = true ∧ (G ((.tup [(.agg [(.int .i64 y0.1), (.sl 2 false (List.drop 0 (List.take w (List.map enc ts))))]), (.int .i64 0)])))))))))) : At T_rcutr 0 (endP' rs_rcutr G) ic_rcutr 1 78 [(4, .ptr 0 0), (6, .ptr 1 0), (8, .pv (.int .i64 g)), (10, .pv (.int .i64 i))] [.obj (.box [.pv (.int .i64 0), .pv (.sl 0 true [])]), .obj (.box [.pv (.int .i64 c), .row 2 q 0 w]), .obj (.row false 87 2 (ts.map enc))] := At.tp (.lit (.ask (.req (.keep (.req (.req (.req (.req (.keep (.req (.lit (.nil)))))))))) (.lit (.abs (Int × Int) (fun YY => AV.pv (enc YY)) (.req (.req (.abs (Bool) (fun YY => AV.pv (enc YY)) (.ask (.nil) (.req (.nil)))))))))) h (by kernel_rfl)
end Go.Pl

namespace Go.Pl
open Go.RowKit
open Enc (enc dec is)
open EncL (encL decL isL)
set_option maxRecDepth 100000
def ic_rcombo : IC := (.seq (.reg [⟨(some 4), (.alloc (.agg [(.int .i64 0), (.sl 0 true [])])), 0, none⟩, ⟨(some 5), (.mv (.c (.bool false))), 1, none⟩] none) (.seq (.seq (.reg [⟨(some 8), (.mv (.t 1)), 0, none⟩, ⟨(some 9), (.len 1 (.t 8)), 0, none⟩, ⟨(some 10), (.mv (.t 0)), 0, none⟩, ⟨(some 11), (.len 1 (.t 10)), 0, none⟩, ⟨(some 12), (.bin .num .neq (.t 9) (.t 11)), 0, none⟩] none) (.cond (.t 12) (.seq (.reg [⟨(some 13), (.build [(.int .i64 0), (.sl 0 true [])] []), 0, none⟩, ⟨none, (.store 2 (.t 4) (.t 13)), 0, none⟩, ⟨(some 5), (.mv (.c (.bool false))), 0, none⟩] none) .ret) .skip)) (.seq (.reg [⟨(some 6), (.alloc (.agg [(.int .i64 0), (.sl 0 true [])])), 0, none⟩] none) (.seq (.seq (.reg [⟨(some 7), (.mv (.c (.int .i64 0))), 0, none⟩] none) (.block 0 (.loop [7, 1, 0, 4, 6] (.seq (.seq (.reg [⟨(some 14), (.mv (.t 7)), 0, none⟩, ⟨(some 15), (.mv (.t 1)), 0, none⟩, ⟨(some 16), (.len 1 (.t 15)), 0, none⟩, ⟨(some 17), (.bin .num .lss (.t 14) (.t 16)), 0, none⟩] none) (.cond (.t 17) .skip (.exit 0))) (.seq (.block 1 (.seq (.seq (.reg [⟨(some 20), (.mv (.t 1)), 0, none⟩, ⟨(some 21), (.mv (.t 7)), 0, none⟩, ⟨(some 22), (.iaddr 1 (.t 20) (.t 21)), 0, none⟩, ⟨(some 23), (.load false [(.int .i64)] (.t 22)), 0, none⟩, ⟨(some 24), (.bin .num .lss (.t 23) (.c (.int .i64 (-1000000000)))), 0, none⟩, ⟨(some 25), (.mv (.t 24)), 0, none⟩, ⟨(some 26), (.mv (.t 1)), 0, (some (25, false))⟩, ⟨(some 27), (.mv (.t 7)), 0, (some (25, false))⟩, ⟨(some 28), (.iaddr 1 (.t 26) (.t 27)), 0, (some (25, false))⟩, ⟨(some 29), (.load false [(.int .i64)] (.t 28)), 0, (some (25, false))⟩, ⟨(some 30), (.bin .num .gtr (.t 29) (.c (.int .i64 1000000000))), 0, (some (25, false))⟩, ⟨(some 31), (.pick (.t 25) (.c (.bool true)) (.t 30)), 0, none⟩, ⟨(some 32), (.mv (.t 31)), 0, none⟩, ⟨(some 33), (.mv (.t 1)), 0, (some (32, false))⟩, ⟨(some 34), (.mv (.t 7)), 0, (some (32, false))⟩, ⟨(some 35), (.iaddr 1 (.t 33) (.t 34)), 0, (some (32, false))⟩, ⟨(some 36), (.load false [(.int .i64)] (.t 35)), 0, (some (32, false))⟩, ⟨(some 37), (.bin .num .lss (.t 36) (.c (.int .i64 0))), 0, (some (32, false))⟩, ⟨(some 38), (.mv (.t 37)), 0, (some (32, false))⟩, ⟨(some 39), (.mv (.t 0)), 0, (some (38, true))⟩, ⟨(some 40), (.mv (.t 7)), 0, (some (38, true))⟩, ⟨(some 41), (.iaddr 3 (.t 39) (.t 40)), 0, (some (38, true))⟩, ⟨(some 42), (.faddr 0 (.t 41)), 0, (some (38, true))⟩, ⟨(some 43), (.load false [.bool] (.t 42)), 0, (some (38, true))⟩, ⟨(some 44), (.un .not (.t 43)), 0, (some (38, true))⟩, ⟨(some 45), (.pick (.t 38) (.t 44) (.c (.bool false))), 0, (some (32, false))⟩, ⟨(some 46), (.pick (.t 32) (.c (.bool true)) (.t 45)), 0, none⟩] none) (.cond (.t 46) (.seq (.reg [⟨(some 47), (.build [(.int .i64 0), (.sl 0 true [])] []), 0, none⟩, ⟨none, (.store 2 (.t 4) (.t 47)), 0, none⟩, ⟨(some 5), (.mv (.c (.bool false))), 0, none⟩] none) .ret) .skip)) (.seq (.reg [⟨(some 48), (.mv (.t 1)), 0, none⟩, ⟨(some 49), (.mv (.t 7)), 0, none⟩, ⟨(some 50), (.iaddr 1 (.t 48) (.t 49)), 0, none⟩, ⟨(some 51), (.load false [(.int .i64)] (.t 50)), 0, none⟩, ⟨(some 52), (.bin .num .neq (.t 51) (.c (.int .i64 0))), 0, none⟩] none) (.cond (.t 52) (.reg [⟨(some 53), (.load true [(.int .i64), (.sl 2)] (.t 6)), 0, none⟩, ⟨(some 54), (.mv (.t 0)), 0, none⟩, ⟨(some 55), (.mv (.t 7)), 0, none⟩, ⟨(some 56), (.iaddr 3 (.t 54) (.t 55)), 0, none⟩, ⟨(some 57), (.faddr 1 (.t 56)), 0, none⟩, ⟨(some 58), (.load true [(.int .i64), (.sl 2)] (.t 57)), 0, none⟩, ⟨(some 59), (.mv (.t 1)), 0, none⟩, ⟨(some 60), (.mv (.t 7)), 0, none⟩, ⟨(some 61), (.iaddr 1 (.t 59) (.t 60)), 0, none⟩, ⟨(some 62), (.load false [(.int .i64)] (.t 61)), 0, none⟩, ⟨(some 63), (.call (.c (.fn 66)) [(.t 53), (.t 58), (.t 62)]), 0, none⟩, ⟨none, (.store 2 (.t 6) (.t 63)), 2, none⟩] (some [[], [], [], [1, 2], [3, 1, 2], [4, 3, 1, 2], [], [], [6, 7], [8, 6, 7], [0, 5, 9, 4, 3, 1, 2, 8, 6, 7], [10, 0, 1, 2, 3, 4, 5, 6, 7, 8, 9]])) .skip)))) (.reg [⟨(some 18), (.mv (.t 7)), 0, none⟩, ⟨(some 19), (.bin .num .add (.t 18) (.c (.int .i64 1))), 0, none⟩, ⟨(some 7), (.mv (.t 19)), 0, none⟩] none)))))) (.seq (.reg [⟨(some 64), (.load true [(.int .i64), (.sl 2)] (.t 6)), 0, none⟩, ⟨none, (.store 2 (.t 4) (.t 64)), 0, none⟩, ⟨(some 5), (.mv (.c (.bool true))), 0, none⟩] none) .ret)))))
def rs_rcombo : List IRes := [(.cell true 2 4), (.tmp 5)]
abbrev nt_rcombo : Nat := 65
def T_rcombo : Tab := tab [(66, .own pre_times val_times)]
theorem rcombo_s {G : AV × List AObj × List AObj → Prop} (fs : List Fact) (ms : List Int) (h : if ((↑(List.length (List.map enc ms)) : Int) != (↑(List.length (List.map enc fs)) : Int)) = true then G (((.tup [(.pv (.agg [(.int .i64 0), (.sl 0 true [])])), (.pv (.bool false))]), ([], []))) else (At T_rcombo 0 (endO' 0 rs_rcombo G) ic_rcombo 0 65 [(0, (.pv (.sl 3 false (List.map enc fs)))), (1, (.pv (.sl 1 false (List.map enc ms)))), (4, (.ptr 0 0)), (6, (.ptr 1 0)), (7, (.pv (.int .i64 0)))] [(.obj (.box [(.pv (.int .i64 0)), (.pv (.sl 0 true []))])), (.obj (.box [(.pv (.int .i64 0)), (.pv (.sl 0 true []))]))])) : Gets T_rcombo 0 (endO' 0 rs_rcombo G) ic_rcombo [] (st0O 65 [.pv (enc fs), .pv (enc ms)] []) := Gets.to (.lit (.ask (.nil) (.nil))) h (by kernel_rfl)
theorem rcombo_h0a {G : AV × List AObj × List AObj → Prop} (fs : List Fact) (ms : List Int) (i : Int) (h : if (decide (i < (↑(List.length (List.map enc ms)) : Int))) = true then (decide (0 ≤ i) && decide (Int.toNat i < List.length (List.map enc ms)) && Enc.sz Int == 1) = true ∧ (∃ y0 : Int, AV.pv (PV.rptr (PV.cells (List.getD (List.map enc ms) (Int.toNat i) default))) = AV.pv (PV.rptr (PV.cells ((enc) y0))) ∧ (if (decide (PV.asInt (List.getD (PV.cells (enc y0)) 0 default) < (-1000000000 : Int))) = true then G (((.tup [(.pv (.agg [(.int .i64 0), (.sl 0 true [])])), (.pv (.bool false))]), ([], []))) else ((decide (0 ≤ i) && decide (Int.toNat i < List.length (List.map enc ms)) && Enc.sz Int == 1) = true ∧ (∃ y1 : Int, AV.pv (PV.rptr (PV.cells (List.getD (List.map enc ms) (Int.toNat i) default))) = AV.pv (PV.rptr (PV.cells ((enc) y1))) ∧ (if (decide (PV.asInt (List.getD (PV.cells (enc y1)) 0 default) > 1000000000)) = true then G (((.tup [(.pv (.agg [(.int .i64 0), (.sl 0 true [])])), (.pv (.bool false))]), ([], []))) else ((decide (0 ≤ i) && decide (Int.toNat i < List.length (List.map enc ms)) && Enc.sz Int == 1) = true ∧ (∃ y2 : Int, AV.pv (PV.rptr (PV.cells (List.getD (List.map enc ms) (Int.toNat i) default))) = AV.pv (PV.rptr (PV.cells ((enc) y2))) ∧ (if (decide (PV.asInt (List.getD (PV.cells (enc y2)) 0 default) < 0)) = true then (decide (0 ≤ i) && decide (Int.toNat i < List.length (List.map enc fs)) && Enc.sz Fact == 3) = true ∧ (∃ y3 : Fact, AV.pv (PV.rptr (PV.cells (List.getD (List.map enc fs) (Int.toNat i) default))) = AV.pv (PV.rptr (PV.cells ((enc) y3))) ∧ (if (!PV.asBool (List.getD (List.drop 0 (PV.cells (enc y3))) 0 default)) = true then G (((.tup [(.pv (.agg [(.int .i64 0), (.sl 0 true [])])), (.pv (.bool false))]), ([], []))) else ((decide (0 ≤ i) && decide (Int.toNat i < List.length (List.map enc ms)) && Enc.sz Int == 1) = true ∧ (∃ y4 : Int, AV.pv (PV.rptr (PV.cells (List.getD (List.map enc ms) (Int.toNat i) default))) = AV.pv (PV.rptr (PV.cells ((enc) y4))) ∧ (if (PV.asInt (List.getD (PV.cells (enc y4)) 0 default) != 0) = true then (decide (0 ≤ i) && decide (Int.toNat i < List.length (List.map enc fs)) && Enc.sz Fact == 3) = true ∧ (∃ y5 : Fact, AV.pv (PV.rptr (PV.cells (List.getD (List.map enc fs) (Int.toNat i) default))) = AV.pv (PV.rptr (PV.cells ((enc) y5))) ∧ ((decide (0 ≤ i) && decide (Int.toNat i < List.length (List.map enc ms)) && Enc.sz Int == 1) = true ∧ (∃ y6 : Int, AV.pv (PV.rptr (PV.cells (List.getD (List.map enc ms) (Int.toNat i) default))) = AV.pv (PV.rptr (PV.cells ((enc) y6))) ∧ ((pre_times [(.pv (.agg [(.int .i64 0), (.sl 0 true [])])), (.pv (.agg [(.int .i64 (PV.asInt (List.getD (List.drop 1 (PV.cells (enc y5))) 0 default))), (.sl 2 false (PV.asXs (List.getD (List.drop 1 (PV.cells (enc y5))) (0 + 1) default)))])), (.pv (.int .i64 (PV.asInt (List.getD (PV.cells (enc y6)) 0 default))))] []) = true ∧ (At T_rcombo 0 (endO' 0 rs_rcombo G) ic_rcombo 0 65 [(0, (.pv (.sl 3 false (List.map enc fs)))), (1, (.pv (.sl 1 false (List.map enc ms)))), (4, (.ptr 0 0)), (6, (.ptr 1 0)), (7, (.pv (.int .i64 (IntKind.wrap IntKind.i64 (i + 1)))))] [(.obj (.box [(.pv (.int .i64 0)), (.pv (.sl 0 true []))])), (.obj (.box [(.pv (.int .i64 (LR.k (timesR (dec (PV.agg [PV.int .i64 0, PV.sl 0 true []])) (dec (PV.agg (shAll (List.drop 1 (PV.cells (enc y5))) 0 [Sh.int .i64, Sh.sl 2]))) (PV.asInt (List.getD (PV.cells (enc y6)) 0 default)))))), (.row 2 (List.length (LR.ts (timesR (dec (PV.agg [PV.int .i64 0, PV.sl 0 true []])) (dec (PV.agg (shAll (List.drop 1 (PV.cells (enc y5))) 0 [Sh.int .i64, Sh.sl 2]))) (PV.asInt (List.getD (PV.cells (enc y6)) 0 default))))) 0 (LR.w (timesR (dec (PV.agg [PV.int .i64 0, PV.sl 0 true []])) (dec (PV.agg (shAll (List.drop 1 (PV.cells (enc y5))) 0 [Sh.int .i64, Sh.sl 2]))) (PV.asInt (List.getD (PV.cells (enc y6)) 0 default)))))])), (.obj (.row false 87 2 (List.map enc (LR.ts (timesR (dec (PV.agg [PV.int .i64 0, PV.sl 0 true []])) (dec (PV.agg (shAll (List.drop 1 (PV.cells (enc y5))) 0 [Sh.int .i64, Sh.sl 2]))) (PV.asInt (List.getD (PV.cells (enc y6)) 0 default)))))))]))))) else (At T_rcombo 0 (endO' 0 rs_rcombo G) ic_rcombo 0 65 [(0, (.pv (.sl 3 false (List.map enc fs)))), (1, (.pv (.sl 1 false (List.map enc ms)))), (4, (.ptr 0 0)), (6, (.ptr 1 0)), (7, (.pv (.int .i64 (IntKind.wrap IntKind.i64 (i + 1)))))] [(.obj (.box [(.pv (.int .i64 0)), (.pv (.sl 0 true []))])), (.obj (.box [(.pv (.int .i64 0)), (.pv (.sl 0 true []))]))])))))) else ((decide (0 ≤ i) && decide (Int.toNat i < List.length (List.map enc ms)) && Enc.sz Int == 1) = true ∧ (∃ y7 : Int, AV.pv (PV.rptr (PV.cells (List.getD (List.map enc ms) (Int.toNat i) default))) = AV.pv (PV.rptr (PV.cells ((enc) y7))) ∧ (if (PV.asInt (List.getD (PV.cells (enc y7)) 0 default) != 0) = true then (decide (0 ≤ i) && decide (Int.toNat i < List.length (List.map enc fs)) && Enc.sz Fact == 3) = true ∧ (∃ y8 : Fact, AV.pv (PV.rptr (PV.cells (List.getD (List.map enc fs) (Int.toNat i) default))) = AV.pv (PV.rptr (PV.cells ((enc) y8))) ∧ ((decide (0 ≤ i) && decide (Int.toNat i < List.length (List.map enc ms)) && Enc.sz Int == 1) = true ∧ (∃ y9 : Int, AV.pv (PV.rptr (PV.cells (List.getD (List.map enc ms) (Int.toNat i) default))) = AV.pv (PV.rptr (PV.cells ((enc) y9))) ∧ ((pre_times [(.pv (.agg [(.int .i64 0), (.sl 0 true [])])), (.pv (.agg [(.int .i64 (PV.asInt (List.getD (List.drop 1 (PV.cells (enc y8))) 0 default))), (.sl 2 false (PV.asXs (List.getD (List.drop 1 (PV.cells (enc y8))) (0 + 1) default)))])), (.pv (.int .i64 (PV.asInt (List.getD (PV.cells (enc y9)) 0 default))))] []) = true ∧ (At T_rcombo 0 (endO' 0 rs_rcombo G) ic_rcombo 0 65 [(0, (.pv (.sl 3 false (List.map enc fs)))), (1, (.pv (.sl 1 false (List.map enc ms)))), (4, (.ptr 0 0)), (6, (.ptr 1 0)), (7, (.pv (.int .i64 (IntKind.wrap IntKind.i64 (i + 1)))))] [(.obj (.box [(.pv (.int .i64 0)), (.pv (.sl 0 true []))])), (.obj (.box [(.pv (.int .i64 (LR.k (timesR (dec (PV.agg [PV.int .i64 0, PV.sl 0 true []])) (dec (PV.agg (shAll (List.drop 1 (PV.cells (enc y8))) 0 [Sh.int .i64, Sh.sl 2]))) (PV.asInt (List.getD (PV.cells (enc y9)) 0 default)))))), (.row 2 (List.length (LR.ts (timesR (dec (PV.agg [PV.int .i64 0, PV.sl 0 true []])) (dec (PV.agg (shAll (List.drop 1 (PV.cells (enc y8))) 0 [Sh.int .i64, Sh.sl 2]))) (PV.asInt (List.getD (PV.cells (enc y9)) 0 default))))) 0 (LR.w (timesR (dec (PV.agg [PV.int .i64 0, PV.sl 0 true []])) (dec (PV.agg (shAll (List.drop 1 (PV.cells (enc y8))) 0 [Sh.int .i64, Sh.sl 2]))) (PV.asInt (List.getD (PV.cells (enc y9)) 0 default)))))])), (.obj (.row false 87 2 (List.map enc (LR.ts (timesR (dec (PV.agg [PV.int .i64 0, PV.sl 0 true []])) (dec (PV.agg (shAll (List.drop 1 (PV.cells (enc y8))) 0 [Sh.int .i64, Sh.sl 2]))) (PV.asInt (List.getD (PV.cells (enc y9)) 0 default)))))))]))))) else (At T_rcombo 0 (endO' 0 rs_rcombo G) ic_rcombo 0 65 [(0, (.pv (.sl 3 false (List.map enc fs)))), (1, (.pv (.sl 1 false (List.map enc ms)))), (4, (.ptr 0 0)), (6, (.ptr 1 0)), (7, (.pv (.int .i64 (IntKind.wrap IntKind.i64 (i + 1)))))] [(.obj (.box [(.pv (.int .i64 0)), (.pv (.sl 0 true []))])), (.obj (.box [(.pv (.int .i64 0)), (.pv (.sl 0 true []))]))])))))))))))) else (G (((.tup [(.pv (.agg [(.int .i64 0), (.sl 0 true [])])), (.pv (.bool true))]), ([], []))))) : At T_rcombo 0 (endO' 0 rs_rcombo G) ic_rcombo 0 65 [(0, .pv (enc fs)), (1, .pv (enc ms)), (4, .ptr 0 0), (6, .ptr 1 0), (7, .pv (.int .i64 i))] [.obj (.box [.pv (.int .i64 0), .pv (.sl 0 true [])]), .obj (.box [.pv (.int .i64 0), .pv (.sl 0 true [])])] := At.to (.lit (.ask (.req (.abs (Int) (fun YY => AV.pv (PV.rptr (PV.cells ((enc) YY)))) (.lit (.lit (.ask (.lit (.lit (.lit (.lit (.lit (.lit (.lit (.lit (.lit (.lit (.lit (.lit (.lit (.lit (.nil))))))))))))))) (.lit (.lit (.req (.abs (Int) (fun YY => AV.pv (PV.rptr (PV.cells ((enc) YY)))) (.lit (.lit (.lit (.lit (.lit (.ask (.lit (.lit (.lit (.lit (.lit (.lit (.lit (.lit (.nil))))))))) (.lit (.lit (.req (.abs (Int) (fun YY => AV.pv (PV.rptr (PV.cells ((enc) YY)))) (.lit (.lit (.lit (.lit (.lit (.ask (.lit (.lit (.req (.abs (Fact) (fun YY => AV.pv (PV.rptr (PV.cells ((enc) YY)))) (.lit (.lit (.lit (.lit (.lit (.lit (.lit (.ask (.nil) (.req (.abs (Int) (fun YY => AV.pv (PV.rptr (PV.cells ((enc) YY)))) (.lit (.lit (.ask (.req (.abs (Fact) (fun YY => AV.pv (PV.rptr (PV.cells ((enc) YY)))) (.lit (.req (.abs (Int) (fun YY => AV.pv (PV.rptr (PV.cells ((enc) YY)))) (.lit (.req (.keep (.lit (.nil)))))))))) (.lit (.nil))))))))))))))))))) (.lit (.lit (.lit (.lit (.lit (.lit (.lit (.lit (.lit (.req (.abs (Int) (fun YY => AV.pv (PV.rptr (PV.cells ((enc) YY)))) (.lit (.lit (.ask (.req (.abs (Fact) (fun YY => AV.pv (PV.rptr (PV.cells ((enc) YY)))) (.lit (.req (.abs (Int) (fun YY => AV.pv (PV.rptr (PV.cells ((enc) YY)))) (.lit (.req (.keep (.lit (.nil)))))))))) (.lit (.nil))))))))))))))))))))))))))))))))))))))))) (.nil))) h (by kernel_rfl)
theorem rcombo_h0b {G : AV × List AObj × List AObj → Prop} (fs : List Fact) (ms : List Int) (c : Int) (q w : Nat) (ts : List Coef) (i : Int) (h : if (decide (i < (↑(List.length (List.map enc ms)) : Int))) = true then (decide (0 ≤ i) && decide (Int.toNat i < List.length (List.map enc ms)) && Enc.sz Int == 1) = true ∧ (∃ y0 : Int, AV.pv (PV.rptr (PV.cells (List.getD (List.map enc ms) (Int.toNat i) default))) = AV.pv (PV.rptr (PV.cells ((enc) y0))) ∧ (if (decide (PV.asInt (List.getD (PV.cells (enc y0)) 0 default) < (-1000000000 : Int))) = true then G (((.tup [(.pv (.agg [(.int .i64 0), (.sl 0 true [])])), (.pv (.bool false))]), ([], []))) else ((decide (0 ≤ i) && decide (Int.toNat i < List.length (List.map enc ms)) && Enc.sz Int == 1) = true ∧ (∃ y1 : Int, AV.pv (PV.rptr (PV.cells (List.getD (List.map enc ms) (Int.toNat i) default))) = AV.pv (PV.rptr (PV.cells ((enc) y1))) ∧ (if (decide (PV.asInt (List.getD (PV.cells (enc y1)) 0 default) > 1000000000)) = true then G (((.tup [(.pv (.agg [(.int .i64 0), (.sl 0 true [])])), (.pv (.bool false))]), ([], []))) else ((decide (0 ≤ i) && decide (Int.toNat i < List.length (List.map enc ms)) && Enc.sz Int == 1) = true ∧ (∃ y2 : Int, AV.pv (PV.rptr (PV.cells (List.getD (List.map enc ms) (Int.toNat i) default))) = AV.pv (PV.rptr (PV.cells ((enc) y2))) ∧ (if (decide (PV.asInt (List.getD (PV.cells (enc y2)) 0 default) < 0)) = true then (decide (0 ≤ i) && decide (Int.toNat i < List.length (List.map enc fs)) && Enc.sz Fact == 3) = true ∧ (∃ y3 : Fact, AV.pv (PV.rptr (PV.cells (List.getD (List.map enc fs) (Int.toNat i) default))) = AV.pv (PV.rptr (PV.cells ((enc) y3))) ∧ (if (!PV.asBool (List.getD (List.drop 0 (PV.cells (enc y3))) 0 default)) = true then G (((.tup [(.pv (.agg [(.int .i64 0), (.sl 0 true [])])), (.pv (.bool false))]), ([], []))) else ((decide (0 ≤ i) && decide (Int.toNat i < List.length (List.map enc ms)) && Enc.sz Int == 1) = true ∧ (∃ y4 : Int, AV.pv (PV.rptr (PV.cells (List.getD (List.map enc ms) (Int.toNat i) default))) = AV.pv (PV.rptr (PV.cells ((enc) y4))) ∧ (if (PV.asInt (List.getD (PV.cells (enc y4)) 0 default) != 0) = true then (decide (0 ≤ i) && decide (Int.toNat i < List.length (List.map enc fs)) && Enc.sz Fact == 3) = true ∧ (∃ y5 : Fact, AV.pv (PV.rptr (PV.cells (List.getD (List.map enc fs) (Int.toNat i) default))) = AV.pv (PV.rptr (PV.cells ((enc) y5))) ∧ ((decide (0 ≤ i) && decide (Int.toNat i < List.length (List.map enc ms)) && Enc.sz Int == 1) = true ∧ (∃ y6 : Int, AV.pv (PV.rptr (PV.cells (List.getD (List.map enc ms) (Int.toNat i) default))) = AV.pv (PV.rptr (PV.cells ((enc) y6))) ∧ ((pre_times [(.agg [(.pv (.int .i64 c)), (.row 0 q 0 w)]), (.pv (.agg [(.int .i64 (PV.asInt (List.getD (List.drop 1 (PV.cells (enc y5))) 0 default))), (.sl 2 false (PV.asXs (List.getD (List.drop 1 (PV.cells (enc y5))) (0 + 1) default)))])), (.pv (.int .i64 (PV.asInt (List.getD (PV.cells (enc y6)) 0 default))))] [(.row false 87 2 (List.map enc ts))]) = true ∧ (At T_rcombo 0 (endO' 0 rs_rcombo G) ic_rcombo 0 65 [(0, (.pv (.sl 3 false (List.map enc fs)))), (1, (.pv (.sl 1 false (List.map enc ms)))), (4, (.ptr 0 0)), (6, (.ptr 1 0)), (7, (.pv (.int .i64 (IntKind.wrap IntKind.i64 (i + 1)))))] [(.obj (.box [(.pv (.int .i64 0)), (.pv (.sl 0 true []))])), (.obj (.box [(.pv (.int .i64 (LR.k (timesR (linW c w (List.map enc ts)) (dec (PV.agg (shAll (List.drop 1 (PV.cells (enc y5))) 0 [Sh.int .i64, Sh.sl 2]))) (PV.asInt (List.getD (PV.cells (enc y6)) 0 default)))))), (.row 2 (List.length (LR.ts (timesR (linW c w (List.map enc ts)) (dec (PV.agg (shAll (List.drop 1 (PV.cells (enc y5))) 0 [Sh.int .i64, Sh.sl 2]))) (PV.asInt (List.getD (PV.cells (enc y6)) 0 default))))) 0 (LR.w (timesR (linW c w (List.map enc ts)) (dec (PV.agg (shAll (List.drop 1 (PV.cells (enc y5))) 0 [Sh.int .i64, Sh.sl 2]))) (PV.asInt (List.getD (PV.cells (enc y6)) 0 default)))))])), (.obj (.row false 87 2 (List.map enc (LR.ts (timesR (linW c w (List.map enc ts)) (dec (PV.agg (shAll (List.drop 1 (PV.cells (enc y5))) 0 [Sh.int .i64, Sh.sl 2]))) (PV.asInt (List.getD (PV.cells (enc y6)) 0 default)))))))]))))) else (At T_rcombo 0 (endO' 0 rs_rcombo G) ic_rcombo 0 65 [(0, (.pv (.sl 3 false (List.map enc fs)))), (1, (.pv (.sl 1 false (List.map enc ms)))), (4, (.ptr 0 0)), (6, (.ptr 1 0)), (7, (.pv (.int .i64 (IntKind.wrap IntKind.i64 (i + 1)))))] [(.obj (.box [(.pv (.int .i64 0)), (.pv (.sl 0 true []))])), (.obj (.box [(.pv (.int .i64 c)), (.row 2 q 0 w)])), (.obj (.row false 87 2 (List.map enc ts)))])))))) else ((decide (0 ≤ i) && decide (Int.toNat i < List.length (List.map enc ms)) && Enc.sz Int == 1) = true ∧ (∃ y7 : Int, AV.pv (PV.rptr (PV.cells (List.getD (List.map enc ms) (Int.toNat i) default))) = AV.pv (PV.rptr (PV.cells ((enc) y7))) ∧ (if (PV.asInt (List.getD (PV.cells (enc y7)) 0 default) != 0) = true then (decide (0 ≤ i) && decide (Int.toNat i < List.length (List.map enc fs)) && Enc.sz Fact == 3) = true ∧ (∃ y8 : Fact, AV.pv (PV.rptr (PV.cells (List.getD (List.map enc fs) (Int.toNat i) default))) = AV.pv (PV.rptr (PV.cells ((enc) y8))) ∧ ((decide (0 ≤ i) && decide (Int.toNat i < List.length (List.map enc ms)) && Enc.sz Int == 1) = true ∧ (∃ y9 : Int, AV.pv (PV.rptr (PV.cells (List.getD (List.map enc ms) (Int.toNat i) default))) = AV.pv (PV.rptr (PV.cells ((enc) y9))) ∧ ((pre_times [(.agg [(.pv (.int .i64 c)), (.row 0 q 0 w)]), (.pv (.agg [(.int .i64 (PV.asInt (List.getD (List.drop 1 (PV.cells (enc y8))) 0 default))), (.sl 2 false (PV.asXs (List.getD (List.drop 1 (PV.cells (enc y8))) (0 + 1) default)))])), (.pv (.int .i64 (PV.asInt (List.getD (PV.cells (enc y9)) 0 default))))] [(.row false 87 2 (List.map enc ts))]) = true ∧ (At T_rcombo 0 (endO' 0 rs_rcombo G) ic_rcombo 0 65 [(0, (.pv (.sl 3 false (List.map enc fs)))), (1, (.pv (.sl 1 false (List.map enc ms)))), (4, (.ptr 0 0)), (6, (.ptr 1 0)), (7, (.pv (.int .i64 (IntKind.wrap IntKind.i64 (i + 1)))))] [(.obj (.box [(.pv (.int .i64 0)), (.pv (.sl 0 true []))])), (.obj (.box [(.pv (.int .i64 (LR.k (timesR (linW c w (List.map enc ts)) (dec (PV.agg (shAll (List.drop 1 (PV.cells (enc y8))) 0 [Sh.int .i64, Sh.sl 2]))) (PV.asInt (List.getD (PV.cells (enc y9)) 0 default)))))), (.row 2 (List.length (LR.ts (timesR (linW c w (List.map enc ts)) (dec (PV.agg (shAll (List.drop 1 (PV.cells (enc y8))) 0 [Sh.int .i64, Sh.sl 2]))) (PV.asInt (List.getD (PV.cells (enc y9)) 0 default))))) 0 (LR.w (timesR (linW c w (List.map enc ts)) (dec (PV.agg (shAll (List.drop 1 (PV.cells (enc y8))) 0 [Sh.int .i64, Sh.sl 2]))) (PV.asInt (List.getD (PV.cells (enc y9)) 0 default)))))])), (.obj (.row false 87 2 (List.map enc (LR.ts (timesR (linW c w (List.map enc ts)) (dec (PV.agg (shAll (List.drop 1 (PV.cells (enc y8))) 0 [Sh.int .i64, Sh.sl 2]))) (PV.asInt (List.getD (PV.cells (enc y9)) 0 default)))))))]))))) else (At T_rcombo 0 (endO' 0 rs_rcombo G) ic_rcombo 0 65 [(0, (.pv (.sl 3 false (List.map enc fs)))), (1, (.pv (.sl 1 false (List.map enc ms)))), (4, (.ptr 0 0)), (6, (.ptr 1 0)), (7, (.pv (.int .i64 (IntKind.wrap IntKind.i64 (i + 1)))))] [(.obj (.box [(.pv (.int .i64 0)), (.pv (.sl 0 true []))])), (.obj (.box [(.pv (.int .i64 c)), (.row 2 q 0 w)])), (.obj (.row false 87 2 (List.map enc ts)))])))))))))))) else (G (((.tup [(.agg [(.pv (.int .i64 c)), (.row 0 q 0 w)]), (.pv (.bool true))]), ([], [(.row false 87 2 (List.map enc ts))]))))) : At T_rcombo 0 (endO' 0 rs_rcombo G) ic_rcombo 0 65 [(0, .pv (enc fs)), (1, .pv (enc ms)), (4, .ptr 0 0), (6, .ptr 1 0), (7, .pv (.int .i64 i))] [.obj (.box [.pv (.int .i64 0), .pv (.sl 0 true [])]), .obj (.box [.pv (.int .i64 c), .row 2 q 0 w]), .obj (.row false 87 2 (ts.map enc))] := At.to (.lit (.ask (.req (.abs (Int) (fun YY => AV.pv (PV.rptr (PV.cells ((enc) YY)))) (.lit (.lit (.ask (.lit (.lit (.lit (.lit (.lit (.lit (.lit (.lit (.lit (.lit (.lit (.lit (.lit (.lit (.nil))))))))))))))) (.lit (.lit (.req (.abs (Int) (fun YY => AV.pv (PV.rptr (PV.cells ((enc) YY)))) (.lit (.lit (.lit (.lit (.lit (.ask (.lit (.lit (.lit (.lit (.lit (.lit (.lit (.lit (.nil))))))))) (.lit (.lit (.req (.abs (Int) (fun YY => AV.pv (PV.rptr (PV.cells ((enc) YY)))) (.lit (.lit (.lit (.lit (.lit (.ask (.lit (.lit (.req (.abs (Fact) (fun YY => AV.pv (PV.rptr (PV.cells ((enc) YY)))) (.lit (.lit (.lit (.lit (.lit (.lit (.lit (.ask (.nil) (.req (.abs (Int) (fun YY => AV.pv (PV.rptr (PV.cells ((enc) YY)))) (.lit (.lit (.ask (.req (.abs (Fact) (fun YY => AV.pv (PV.rptr (PV.cells ((enc) YY)))) (.lit (.req (.abs (Int) (fun YY => AV.pv (PV.rptr (PV.cells ((enc) YY)))) (.lit (.req (.keep (.lit (.nil)))))))))) (.lit (.nil))))))))))))))))))) (.lit (.lit (.lit (.lit (.lit (.lit (.lit (.lit (.lit (.req (.abs (Int) (fun YY => AV.pv (PV.rptr (PV.cells ((enc) YY)))) (.lit (.lit (.ask (.req (.abs (Fact) (fun YY => AV.pv (PV.rptr (PV.cells ((enc) YY)))) (.lit (.req (.abs (Int) (fun YY => AV.pv (PV.rptr (PV.cells ((enc) YY)))) (.lit (.req (.keep (.lit (.nil)))))))))) (.lit (.nil))))))))))))))))))))))))))))))))))))))))) (.nil))) h (by kernel_rfl)
end Go.Pl

namespace Go.Pl
open Go.RowKit
open Enc (enc dec is)
open EncL (encL decL isL)
set_option maxRecDepth 100000
def ic_pluso : IC := ic_plus
def rs_pluso : List IRes := [(.cell true 2 6)]
abbrev nt_pluso : Nat := 100
def T_pluso : Tab := tab []
theorem pluso_s {G : AV × List AObj × List AObj → Prop} (l : Lin) (s : List UInt8) (c : Int) (h : At T_pluso 0 (endO' 0 rs_pluso G) ic_pluso 0 100 [(1, (.pv (.str s))), (2, (.pv (.int .i64 c))), (3, (.ptr 0 0)), (6, (.ptr 1 0)), (7, (.ptr 2 0)), (8, (.pv (.bool false))), (9, (.pv (.int .i64 0)))] [(.obj (.box [(.pv (.int .i64 l.k)), (.pv (.sl 2 false (List.map enc l.t)))])), (.obj (.box [(.pv (.int .i64 0)), (.pv (.sl 0 true []))])), (.obj (.box [(.pv (.int .i64 l.k)), (.pv (.sl 0 true []))]))]) : Gets T_pluso 0 (endO' 0 rs_pluso G) ic_pluso [] (st0O 100 [.pv (enc l), .pv (.str s), .pv (enc c)] []) := Gets.to (.nil) h (by kernel_rfl)
theorem pluso_h0a {G : AV × List AObj × List AObj → Prop} (l : Lin) (s : List UInt8) (c : Int) (p : Bool) (i : Int) (h : if (decide (i < (↑(List.length (List.map enc l.t)) : Int))) = true then (decide (0 ≤ i) && decide (Int.toNat i < List.length (List.map enc l.t)) && Enc.sz Coef == 2) = true ∧ (∃ y0 : Coef, AV.pv (PV.rptr (PV.cells (List.getD (List.map enc l.t) (Int.toNat i) default))) = AV.pv (PV.rptr (PV.cells ((enc) y0))) ∧ (if (!p) = true then if (!(Op.bytesLess (PV.asStr (List.getD (PV.cells (enc y0)) 0 default)) s || PV.asStr (List.getD (PV.cells (enc y0)) 0 default) == s)) = true then if (PV.asStr (List.getD (PV.cells (enc y0)) 0 default) == s) = true then At T_pluso 0 (endO' 0 rs_pluso G) ic_pluso 0 100 [(1, (.pv (.str s))), (2, (.pv (.int .i64 c))), (3, (.ptr 0 0)), (6, (.ptr 1 0)), (7, (.ptr 2 0)), (8, (.pv (.bool true))), (9, (.pv (.int .i64 (IntKind.wrap IntKind.i64 (i + 1)))))] [(.obj (.box [(.pv (.int .i64 l.k)), (.pv (.sl 2 false (List.map enc l.t)))])), (.obj (.box [(.pv (.int .i64 0)), (.pv (.sl 0 true []))])), (.obj (.box [(.pv (.int .i64 l.k)), (.row 3 2 0 2)])), (.obj (.row false 87 2 [(.agg [(.str s), (.int .i64 c)]), (.agg [(.str (PV.asStr (List.getD (PV.cells (enc y0)) 0 default))), (.int .i64 (IntKind.wrap IntKind.i64 (PV.asInt (List.getD (PV.cells (enc y0)) (0 + 1) default) + c)))])]))] else (At T_pluso 0 (endO' 0 rs_pluso G) ic_pluso 0 100 [(1, (.pv (.str s))), (2, (.pv (.int .i64 c))), (3, (.ptr 0 0)), (6, (.ptr 1 0)), (7, (.ptr 2 0)), (8, (.pv (.bool true))), (9, (.pv (.int .i64 (IntKind.wrap IntKind.i64 (i + 1)))))] [(.obj (.box [(.pv (.int .i64 l.k)), (.pv (.sl 2 false (List.map enc l.t)))])), (.obj (.box [(.pv (.int .i64 0)), (.pv (.sl 0 true []))])), (.obj (.box [(.pv (.int .i64 l.k)), (.row 3 2 0 2)])), (.obj (.row false 87 2 [(.agg [(.str s), (.int .i64 c)]), (.agg [(.str (PV.asStr (List.getD (PV.cells (enc y0)) 0 default))), (.int .i64 (PV.asInt (List.getD (PV.cells (enc y0)) (0 + 1) default)))])]))]) else (if (PV.asStr (List.getD (PV.cells (enc y0)) 0 default) == s) = true then At T_pluso 0 (endO' 0 rs_pluso G) ic_pluso 0 100 [(1, (.pv (.str s))), (2, (.pv (.int .i64 c))), (3, (.ptr 0 0)), (6, (.ptr 1 0)), (7, (.ptr 2 0)), (8, (.pv (.bool true))), (9, (.pv (.int .i64 (IntKind.wrap IntKind.i64 (i + 1)))))] [(.obj (.box [(.pv (.int .i64 l.k)), (.pv (.sl 2 false (List.map enc l.t)))])), (.obj (.box [(.pv (.int .i64 0)), (.pv (.sl 0 true []))])), (.obj (.box [(.pv (.int .i64 l.k)), (.row 3 1 0 1)])), (.obj (.row false 87 2 [(.agg [(.str (PV.asStr (List.getD (PV.cells (enc y0)) 0 default))), (.int .i64 (IntKind.wrap IntKind.i64 (PV.asInt (List.getD (PV.cells (enc y0)) (0 + 1) default) + c)))])]))] else (At T_pluso 0 (endO' 0 rs_pluso G) ic_pluso 0 100 [(1, (.pv (.str s))), (2, (.pv (.int .i64 c))), (3, (.ptr 0 0)), (6, (.ptr 1 0)), (7, (.ptr 2 0)), (8, (.pv (.bool p))), (9, (.pv (.int .i64 (IntKind.wrap IntKind.i64 (i + 1)))))] [(.obj (.box [(.pv (.int .i64 l.k)), (.pv (.sl 2 false (List.map enc l.t)))])), (.obj (.box [(.pv (.int .i64 0)), (.pv (.sl 0 true []))])), (.obj (.box [(.pv (.int .i64 l.k)), (.row 3 1 0 1)])), (.obj (.row false 87 2 [(.agg [(.str (PV.asStr (List.getD (PV.cells (enc y0)) 0 default))), (.int .i64 (PV.asInt (List.getD (PV.cells (enc y0)) (0 + 1) default)))])]))])) else (if (PV.asStr (List.getD (PV.cells (enc y0)) 0 default) == s) = true then At T_pluso 0 (endO' 0 rs_pluso G) ic_pluso 0 100 [(1, (.pv (.str s))), (2, (.pv (.int .i64 c))), (3, (.ptr 0 0)), (6, (.ptr 1 0)), (7, (.ptr 2 0)), (8, (.pv (.bool true))), (9, (.pv (.int .i64 (IntKind.wrap IntKind.i64 (i + 1)))))] [(.obj (.box [(.pv (.int .i64 l.k)), (.pv (.sl 2 false (List.map enc l.t)))])), (.obj (.box [(.pv (.int .i64 0)), (.pv (.sl 0 true []))])), (.obj (.box [(.pv (.int .i64 l.k)), (.row 3 1 0 1)])), (.obj (.row false 87 2 [(.agg [(.str (PV.asStr (List.getD (PV.cells (enc y0)) 0 default))), (.int .i64 (IntKind.wrap IntKind.i64 (PV.asInt (List.getD (PV.cells (enc y0)) (0 + 1) default) + c)))])]))] else (At T_pluso 0 (endO' 0 rs_pluso G) ic_pluso 0 100 [(1, (.pv (.str s))), (2, (.pv (.int .i64 c))), (3, (.ptr 0 0)), (6, (.ptr 1 0)), (7, (.ptr 2 0)), (8, (.pv (.bool p))), (9, (.pv (.int .i64 (IntKind.wrap IntKind.i64 (i + 1)))))] [(.obj (.box [(.pv (.int .i64 l.k)), (.pv (.sl 2 false (List.map enc l.t)))])), (.obj (.box [(.pv (.int .i64 0)), (.pv (.sl 0 true []))])), (.obj (.box [(.pv (.int .i64 l.k)), (.row 3 1 0 1)])), (.obj (.row false 87 2 [(.agg [(.str (PV.asStr (List.getD (PV.cells (enc y0)) 0 default))), (.int .i64 (PV.asInt (List.getD (PV.cells (enc y0)) (0 + 1) default)))])]))])))) else (if (!p) = true then At T_pluso 0 (endO' 0 rs_pluso G) ic_pluso 1 100 [(6, (.ptr 0 0)), (7, (.ptr 1 0)), (11, (.pv (.int .i64 0))), (12, (.pv (.int .i64 0)))] [(.obj (.box [(.pv (.int .i64 0)), (.pv (.sl 0 true []))])), (.obj (.box [(.pv (.int .i64 l.k)), (.row 2 1 0 1)])), (.obj (.row false 87 2 [(.agg [(.str s), (.int .i64 c)])]))] else (At T_pluso 0 (endO' 0 rs_pluso G) ic_pluso 1 100 [(6, (.ptr 0 0)), (7, (.ptr 1 0)), (11, (.pv (.int .i64 0))), (12, (.pv (.int .i64 0)))] [(.obj (.box [(.pv (.int .i64 0)), (.pv (.sl 0 true []))])), (.obj (.box [(.pv (.int .i64 l.k)), (.pv (.sl 0 true []))]))]))) : At T_pluso 0 (endO' 0 rs_pluso G) ic_pluso 0 100 [(1, .pv (.str s)), (2, .pv (.int .i64 c)), (3, .ptr 0 0), (6, .ptr 1 0), (7, .ptr 2 0), (8, .pv (.bool p)), (9, .pv (.int .i64 i))] [.obj (.box [.pv (.int .i64 l.k), .pv (enc l.t)]), .obj (.box [.pv (.int .i64 0), .pv (.sl 0 true [])]), .obj (.box [.pv (.int .i64 l.k), .pv (.sl 0 true [])])] := At.to (.lit (.ask (.req (.abs (Coef) (fun YY => AV.pv (PV.rptr (PV.cells ((enc) YY)))) (.lit (.ask (.lit (.lit (.lit (.lit (.lit (.ask (.lit (.lit (.lit (.lit (.lit (.lit (.ask (.lit (.lit (.lit (.lit (.lit (.nil)))))) (.lit (.lit (.lit (.lit (.nil)))))))))))) (.lit (.ask (.lit (.lit (.lit (.lit (.lit (.lit (.lit (.nil)))))))) (.lit (.lit (.lit (.lit (.lit (.lit (.nil))))))))))))))) (.lit (.lit (.lit (.lit (.lit (.lit (.ask (.lit (.lit (.lit (.lit (.lit (.lit (.lit (.nil)))))))) (.lit (.lit (.lit (.lit (.lit (.lit (.nil)))))))))))))))))) (.ask (.lit (.lit (.lit (.lit (.lit (.nil)))))) (.nil)))) h (by kernel_rfl)
theorem pluso_h1r {G : AV × List AObj × List AObj → Prop} (l : Lin) (s : List UInt8) (c : Int) (j i : Int) (q : Nat) (ts : List Coef) (h : if (decide (i < (↑(q - 0) : Int))) = true then (decide (0 ≤ i) && decide (0 + Int.toNat i < q) && List.length (List.map enc ts) == q) = true ∧ ((List.length (List.map enc ts) == q && decide (0 + Int.toNat i < List.length (List.map enc ts))) = true ∧ ((decide (0 + 1 + List.length [Sh.int .i64] ≤ List.length (PV.cells (List.getD (List.map enc ts) (0 + Int.toNat i) default))) && shFit (PV.cells (List.getD (List.map enc ts) (0 + Int.toNat i) default)) (0 + 1) [Sh.int .i64]) = true ∧ (if (PV.asInt (List.getD (PV.cells (List.getD (List.map enc ts) (0 + Int.toNat i) default)) (0 + 1) default) != 0) = true then (decide (0 ≤ i) && decide (0 + Int.toNat i < q) && List.length (List.map enc ts) == q) = true ∧ ((List.length (List.map enc ts) == q && decide (0 + Int.toNat i < List.length (List.map enc ts))) = true ∧ ((decide (0 + List.length [Sh.str, Sh.int .i64] ≤ List.length (PV.cells (List.getD (List.map enc ts) (0 + Int.toNat i) default))) && shFit (PV.cells (List.getD (List.map enc ts) (0 + Int.toNat i) default)) 0 [Sh.str, Sh.int .i64]) = true ∧ ((decide (0 ≤ j) && decide (0 + Int.toNat j < q) && List.length (List.map enc ts) == q) = true ∧ ((List.length (List.map enc ts) == q && decide (0 + Int.toNat j < List.length (List.map enc ts)) && List.length (PV.cells (PV.agg (shAll (PV.cells (List.getD (List.map enc ts) (0 + Int.toNat i) default)) 0 [Sh.str, Sh.int .i64]))) == 2 && decide (0 + 2 ≤ List.length (PV.cells (List.getD (List.map enc ts) (0 + Int.toNat j) default))) && PV.cellsOk (PV.agg (shAll (PV.cells (List.getD (List.map enc ts) (0 + Int.toNat i) default)) 0 [Sh.str, Sh.int .i64]))) = true ∧ (At T_pluso 0 (endO' 0 rs_pluso G) ic_pluso 1 100 [(6, (.ptr 0 0)), (7, (.ptr 1 0)), (11, (.pv (.int .i64 (IntKind.wrap IntKind.i64 (j + 1))))), (12, (.pv (.int .i64 (IntKind.wrap IntKind.i64 (i + 1)))))] [(.obj (.box [(.pv (.int .i64 0)), (.pv (.sl 0 true []))])), (.obj (.box [(.pv (.int .i64 l.k)), (.row 2 q 0 q)])), (.obj (.row false 87 2 (List.set (List.map enc ts) (0 + Int.toNat j) (PV.withCells (List.getD (List.map enc ts) (0 + Int.toNat j) default) (splice (PV.cells (List.getD (List.map enc ts) (0 + Int.toNat j) default)) 0 (PV.cells (PV.agg (shAll (PV.cells (List.getD (List.map enc ts) (0 + Int.toNat i) default)) 0 [Sh.str, Sh.int .i64]))))))))]))))) else (At T_pluso 0 (endO' 0 rs_pluso G) ic_pluso 1 100 [(6, (.ptr 0 0)), (7, (.ptr 1 0)), (11, (.pv (.int .i64 j))), (12, (.pv (.int .i64 (IntKind.wrap IntKind.i64 (i + 1)))))] [(.obj (.box [(.pv (.int .i64 0)), (.pv (.sl 0 true []))])), (.obj (.box [(.pv (.int .i64 l.k)), (.row 2 q 0 q)])), (.obj (.row false 87 2 (List.map enc ts)))])))) else ((true && decide (0 ≤ j) && decide (0 ≤ Int.toNat j) && decide (0 + Int.toNat j ≤ q) && List.length (List.map enc ts) == q) = true ∧ (G (((.agg [(.pv (.int .i64 l.k)), (.row 0 q 0 (0 + Int.toNat j))]), ([], [(.row false 87 2 (List.map enc ts))])))))) : At T_pluso 0 (endO' 0 rs_pluso G) ic_pluso 1 100 [(6, .ptr 0 0), (7, .ptr 1 0), (11, .pv (.int .i64 j)), (12, .pv (.int .i64 i))] [.obj (.box [.pv (.int .i64 0), .pv (.sl 0 true [])]), .obj (.box [.pv (.int .i64 l.k), .row 2 q 0 q]), .obj (.row false 87 2 (ts.map enc))] := At.to (.lit (.ask (.req (.keep (.req (.req (.lit (.ask (.req (.keep (.req (.req (.req (.keep (.req (.lit (.lit (.nil)))))))))) (.lit (.nil)))))))) (.req (.nil)))) h (by kernel_rfl)
theorem pluso_h0b {G : AV × List AObj × List AObj → Prop} (l : Lin) (s : List UInt8) (c : Int) (p : Bool) (i : Int) (q : Nat) (ts : List Coef) (h : if (decide (i < (↑(List.length (List.map enc l.t)) : Int))) = true then (decide (0 ≤ i) && decide (Int.toNat i < List.length (List.map enc l.t)) && Enc.sz Coef == 2) = true ∧ (∃ y0 : Coef, AV.pv (PV.rptr (PV.cells (List.getD (List.map enc l.t) (Int.toNat i) default))) = AV.pv (PV.rptr (PV.cells ((enc) y0))) ∧ (if (!p) = true then if (!(Op.bytesLess (PV.asStr (List.getD (PV.cells (enc y0)) 0 default)) s || PV.asStr (List.getD (PV.cells (enc y0)) 0 default) == s)) = true then (List.length (List.map enc ts) == q && q == q && decide ((q + List.length (List.drop 0 (List.take 1 [PV.agg [PV.str s, PV.int .i64 c]]))) * 24 ≤ 1099511627776) && decide (q + List.length (List.drop 0 (List.take 1 [PV.agg [PV.str s, PV.int .i64 c]])) ≤ 1099511627776)) = true ∧ (if (PV.asStr (List.getD (PV.cells (enc y0)) 0 default) == s) = true then (List.length (List.map enc ts ++ List.drop 0 (List.take 1 [PV.agg [PV.str s, PV.int .i64 c]])) == q + List.length (List.drop 0 (List.take 1 [PV.agg [PV.str s, PV.int .i64 c]])) && q + List.length (List.drop 0 (List.take 1 [PV.agg [PV.str s, PV.int .i64 c]])) == q + List.length (List.drop 0 (List.take 1 [PV.agg [PV.str s, PV.int .i64 c]])) && decide ((q + List.length (List.drop 0 (List.take 1 [PV.agg [PV.str s, PV.int .i64 c]])) + List.length (List.drop 0 (List.take 1 [PV.agg [Sh.co Sh.str (List.getD (PV.cells (enc y0)) 0 default), PV.int .i64 (IntKind.wrap IntKind.i64 (PV.asInt (List.getD (PV.cells (enc y0)) (0 + 1) default) + c))]]))) * 24 ≤ 1099511627776) && decide (q + List.length (List.drop 0 (List.take 1 [PV.agg [PV.str s, PV.int .i64 c]])) + List.length (List.drop 0 (List.take 1 [PV.agg [Sh.co Sh.str (List.getD (PV.cells (enc y0)) 0 default), PV.int .i64 (IntKind.wrap IntKind.i64 (PV.asInt (List.getD (PV.cells (enc y0)) (0 + 1) default) + c))]])) ≤ 1099511627776)) = true ∧ (At T_pluso 0 (endO' 0 rs_pluso G) ic_pluso 0 100 [(1, (.pv (.str s))), (2, (.pv (.int .i64 c))), (3, (.ptr 0 0)), (6, (.ptr 1 0)), (7, (.ptr 2 0)), (8, (.pv (.bool true))), (9, (.pv (.int .i64 (IntKind.wrap IntKind.i64 (i + 1)))))] [(.obj (.box [(.pv (.int .i64 l.k)), (.pv (.sl 2 false (List.map enc l.t)))])), (.obj (.box [(.pv (.int .i64 0)), (.pv (.sl 0 true []))])), (.obj (.box [(.pv (.int .i64 l.k)), (.row 3 (q + List.length (List.drop 0 (List.take 1 [PV.agg [PV.str s, PV.int .i64 c]])) + List.length (List.drop 0 (List.take 1 [PV.agg [Sh.co Sh.str (List.getD (PV.cells (enc y0)) 0 default), PV.int .i64 (IntKind.wrap IntKind.i64 (PV.asInt (List.getD (PV.cells (enc y0)) (0 + 1) default) + c))]]))) 0 (q + List.length (List.drop 0 (List.take 1 [PV.agg [PV.str s, PV.int .i64 c]])) + List.length (List.drop 0 (List.take 1 [PV.agg [Sh.co Sh.str (List.getD (PV.cells (enc y0)) 0 default), PV.int .i64 (IntKind.wrap IntKind.i64 (PV.asInt (List.getD (PV.cells (enc y0)) (0 + 1) default) + c))]]))))])), (.obj (.row false 87 2 (List.map enc ts ++ List.drop 0 (List.take 1 [PV.agg [PV.str s, PV.int .i64 c]]) ++ List.drop 0 (List.take 1 [PV.agg [Sh.co Sh.str (List.getD (PV.cells (enc y0)) 0 default), PV.int .i64 (IntKind.wrap IntKind.i64 (PV.asInt (List.getD (PV.cells (enc y0)) (0 + 1) default) + c))]]))))]) else ((List.length (List.map enc ts ++ List.drop 0 (List.take 1 [PV.agg [PV.str s, PV.int .i64 c]])) == q + List.length (List.drop 0 (List.take 1 [PV.agg [PV.str s, PV.int .i64 c]])) && q + List.length (List.drop 0 (List.take 1 [PV.agg [PV.str s, PV.int .i64 c]])) == q + List.length (List.drop 0 (List.take 1 [PV.agg [PV.str s, PV.int .i64 c]])) && decide ((q + List.length (List.drop 0 (List.take 1 [PV.agg [PV.str s, PV.int .i64 c]])) + List.length (List.drop 0 (List.take 1 [PV.agg [Sh.co Sh.str (List.getD (PV.cells (enc y0)) 0 default), Sh.co (Sh.int .i64) (List.getD (PV.cells (enc y0)) (0 + 1) default)]]))) * 24 ≤ 1099511627776) && decide (q + List.length (List.drop 0 (List.take 1 [PV.agg [PV.str s, PV.int .i64 c]])) + List.length (List.drop 0 (List.take 1 [PV.agg [Sh.co Sh.str (List.getD (PV.cells (enc y0)) 0 default), Sh.co (Sh.int .i64) (List.getD (PV.cells (enc y0)) (0 + 1) default)]])) ≤ 1099511627776)) = true ∧ (At T_pluso 0 (endO' 0 rs_pluso G) ic_pluso 0 100 [(1, (.pv (.str s))), (2, (.pv (.int .i64 c))), (3, (.ptr 0 0)), (6, (.ptr 1 0)), (7, (.ptr 2 0)), (8, (.pv (.bool true))), (9, (.pv (.int .i64 (IntKind.wrap IntKind.i64 (i + 1)))))] [(.obj (.box [(.pv (.int .i64 l.k)), (.pv (.sl 2 false (List.map enc l.t)))])), (.obj (.box [(.pv (.int .i64 0)), (.pv (.sl 0 true []))])), (.obj (.box [(.pv (.int .i64 l.k)), (.row 3 (q + List.length (List.drop 0 (List.take 1 [PV.agg [PV.str s, PV.int .i64 c]])) + List.length (List.drop 0 (List.take 1 [PV.agg [Sh.co Sh.str (List.getD (PV.cells (enc y0)) 0 default), Sh.co (Sh.int .i64) (List.getD (PV.cells (enc y0)) (0 + 1) default)]]))) 0 (q + List.length (List.drop 0 (List.take 1 [PV.agg [PV.str s, PV.int .i64 c]])) + List.length (List.drop 0 (List.take 1 [PV.agg [Sh.co Sh.str (List.getD (PV.cells (enc y0)) 0 default), Sh.co (Sh.int .i64) (List.getD (PV.cells (enc y0)) (0 + 1) default)]]))))])), (.obj (.row false 87 2 (List.map enc ts ++ List.drop 0 (List.take 1 [PV.agg [PV.str s, PV.int .i64 c]]) ++ List.drop 0 (List.take 1 [PV.agg [Sh.co Sh.str (List.getD (PV.cells (enc y0)) 0 default), Sh.co (Sh.int .i64) (List.getD (PV.cells (enc y0)) (0 + 1) default)]]))))]))) else (if (PV.asStr (List.getD (PV.cells (enc y0)) 0 default) == s) = true then (List.length (List.map enc ts) == q && q == q && decide ((q + List.length (List.drop 0 (List.take 1 [PV.agg [Sh.co Sh.str (List.getD (PV.cells (enc y0)) 0 default), PV.int .i64 (IntKind.wrap IntKind.i64 (PV.asInt (List.getD (PV.cells (enc y0)) (0 + 1) default) + c))]]))) * 24 ≤ 1099511627776) && decide (q + List.length (List.drop 0 (List.take 1 [PV.agg [Sh.co Sh.str (List.getD (PV.cells (enc y0)) 0 default), PV.int .i64 (IntKind.wrap IntKind.i64 (PV.asInt (List.getD (PV.cells (enc y0)) (0 + 1) default) + c))]])) ≤ 1099511627776)) = true ∧ (At T_pluso 0 (endO' 0 rs_pluso G) ic_pluso 0 100 [(1, (.pv (.str s))), (2, (.pv (.int .i64 c))), (3, (.ptr 0 0)), (6, (.ptr 1 0)), (7, (.ptr 2 0)), (8, (.pv (.bool true))), (9, (.pv (.int .i64 (IntKind.wrap IntKind.i64 (i + 1)))))] [(.obj (.box [(.pv (.int .i64 l.k)), (.pv (.sl 2 false (List.map enc l.t)))])), (.obj (.box [(.pv (.int .i64 0)), (.pv (.sl 0 true []))])), (.obj (.box [(.pv (.int .i64 l.k)), (.row 3 (q + List.length (List.drop 0 (List.take 1 [PV.agg [Sh.co Sh.str (List.getD (PV.cells (enc y0)) 0 default), PV.int .i64 (IntKind.wrap IntKind.i64 (PV.asInt (List.getD (PV.cells (enc y0)) (0 + 1) default) + c))]]))) 0 (q + List.length (List.drop 0 (List.take 1 [PV.agg [Sh.co Sh.str (List.getD (PV.cells (enc y0)) 0 default), PV.int .i64 (IntKind.wrap IntKind.i64 (PV.asInt (List.getD (PV.cells (enc y0)) (0 + 1) default) + c))]]))))])), (.obj (.row false 87 2 (List.map enc ts ++ List.drop 0 (List.take 1 [PV.agg [Sh.co Sh.str (List.getD (PV.cells (enc y0)) 0 default), PV.int .i64 (IntKind.wrap IntKind.i64 (PV.asInt (List.getD (PV.cells (enc y0)) (0 + 1) default) + c))]]))))]) else ((List.length (List.map enc ts) == q && q == q && decide ((q + List.length (List.drop 0 (List.take 1 [PV.agg [Sh.co Sh.str (List.getD (PV.cells (enc y0)) 0 default), Sh.co (Sh.int .i64) (List.getD (PV.cells (enc y0)) (0 + 1) default)]]))) * 24 ≤ 1099511627776) && decide (q + List.length (List.drop 0 (List.take 1 [PV.agg [Sh.co Sh.str (List.getD (PV.cells (enc y0)) 0 default), Sh.co (Sh.int .i64) (List.getD (PV.cells (enc y0)) (0 + 1) default)]])) ≤ 1099511627776)) = true ∧ (At T_pluso 0 (endO' 0 rs_pluso G) ic_pluso 0 100 [(1, (.pv (.str s))), (2, (.pv (.int .i64 c))), (3, (.ptr 0 0)), (6, (.ptr 1 0)), (7, (.ptr 2 0)), (8, (.pv (.bool p))), (9, (.pv (.int .i64 (IntKind.wrap IntKind.i64 (i + 1)))))] [(.obj (.box [(.pv (.int .i64 l.k)), (.pv (.sl 2 false (List.map enc l.t)))])), (.obj (.box [(.pv (.int .i64 0)), (.pv (.sl 0 true []))])), (.obj (.box [(.pv (.int .i64 l.k)), (.row 3 (q + List.length (List.drop 0 (List.take 1 [PV.agg [Sh.co Sh.str (List.getD (PV.cells (enc y0)) 0 default), Sh.co (Sh.int .i64) (List.getD (PV.cells (enc y0)) (0 + 1) default)]]))) 0 (q + List.length (List.drop 0 (List.take 1 [PV.agg [Sh.co Sh.str (List.getD (PV.cells (enc y0)) 0 default), Sh.co (Sh.int .i64) (List.getD (PV.cells (enc y0)) (0 + 1) default)]]))))])), (.obj (.row false 87 2 (List.map enc ts ++ List.drop 0 (List.take 1 [PV.agg [Sh.co Sh.str (List.getD (PV.cells (enc y0)) 0 default), Sh.co (Sh.int .i64) (List.getD (PV.cells (enc y0)) (0 + 1) default)]]))))]))) else (if (PV.asStr (List.getD (PV.cells (enc y0)) 0 default) == s) = true then (List.length (List.map enc ts) == q && q == q && decide ((q + List.length (List.drop 0 (List.take 1 [PV.agg [Sh.co Sh.str (List.getD (PV.cells (enc y0)) 0 default), PV.int .i64 (IntKind.wrap IntKind.i64 (PV.asInt (List.getD (PV.cells (enc y0)) (0 + 1) default) + c))]]))) * 24 ≤ 1099511627776) && decide (q + List.length (List.drop 0 (List.take 1 [PV.agg [Sh.co Sh.str (List.getD (PV.cells (enc y0)) 0 default), PV.int .i64 (IntKind.wrap IntKind.i64 (PV.asInt (List.getD (PV.cells (enc y0)) (0 + 1) default) + c))]])) ≤ 1099511627776)) = true ∧ (At T_pluso 0 (endO' 0 rs_pluso G) ic_pluso 0 100 [(1, (.pv (.str s))), (2, (.pv (.int .i64 c))), (3, (.ptr 0 0)), (6, (.ptr 1 0)), (7, (.ptr 2 0)), (8, (.pv (.bool true))), (9, (.pv (.int .i64 (IntKind.wrap IntKind.i64 (i + 1)))))] [(.obj (.box [(.pv (.int .i64 l.k)), (.pv (.sl 2 false (List.map enc l.t)))])), (.obj (.box [(.pv (.int .i64 0)), (.pv (.sl 0 true []))])), (.obj (.box [(.pv (.int .i64 l.k)), (.row 3 (q + List.length (List.drop 0 (List.take 1 [PV.agg [Sh.co Sh.str (List.getD (PV.cells (enc y0)) 0 default), PV.int .i64 (IntKind.wrap IntKind.i64 (PV.asInt (List.getD (PV.cells (enc y0)) (0 + 1) default) + c))]]))) 0 (q + List.length (List.drop 0 (List.take 1 [PV.agg [Sh.co Sh.str (List.getD (PV.cells (enc y0)) 0 default), PV.int .i64 (IntKind.wrap IntKind.i64 (PV.asInt (List.getD (PV.cells (enc y0)) (0 + 1) default) + c))]]))))])), (.obj (.row false 87 2 (List.map enc ts ++ List.drop 0 (List.take 1 [PV.agg [Sh.co Sh.str (List.getD (PV.cells (enc y0)) 0 default), PV.int .i64 (IntKind.wrap IntKind.i64 (PV.asInt (List.getD (PV.cells (enc y0)) (0 + 1) default) + c))]]))))]) else ((List.length (List.map enc ts) == q && q == q && decide ((q + List.length (List.drop 0 (List.take 1 [PV.agg [Sh.co Sh.str (List.getD (PV.cells (enc y0)) 0 default), Sh.co (Sh.int .i64) (List.getD (PV.cells (enc y0)) (0 + 1) default)]]))) * 24 ≤ 1099511627776) && decide (q + List.length (List.drop 0 (List.take 1 [PV.agg [Sh.co Sh.str (List.getD (PV.cells (enc y0)) 0 default), Sh.co (Sh.int .i64) (List.getD (PV.cells (enc y0)) (0 + 1) default)]])) ≤ 1099511627776)) = true ∧ (At T_pluso 0 (endO' 0 rs_pluso G) ic_pluso 0 100 [(1, (.pv (.str s))), (2, (.pv (.int .i64 c))), (3, (.ptr 0 0)), (6, (.ptr 1 0)), (7, (.ptr 2 0)), (8, (.pv (.bool p))), (9, (.pv (.int .i64 (IntKind.wrap IntKind.i64 (i + 1)))))] [(.obj (.box [(.pv (.int .i64 l.k)), (.pv (.sl 2 false (List.map enc l.t)))])), (.obj (.box [(.pv (.int .i64 0)), (.pv (.sl 0 true []))])), (.obj (.box [(.pv (.int .i64 l.k)), (.row 3 (q + List.length (List.drop 0 (List.take 1 [PV.agg [Sh.co Sh.str (List.getD (PV.cells (enc y0)) 0 default), Sh.co (Sh.int .i64) (List.getD (PV.cells (enc y0)) (0 + 1) default)]]))) 0 (q + List.length (List.drop 0 (List.take 1 [PV.agg [Sh.co Sh.str (List.getD (PV.cells (enc y0)) 0 default), Sh.co (Sh.int .i64) (List.getD (PV.cells (enc y0)) (0 + 1) default)]]))))])), (.obj (.row false 87 2 (List.map enc ts ++ List.drop 0 (List.take 1 [PV.agg [Sh.co Sh.str (List.getD (PV.cells (enc y0)) 0 default), Sh.co (Sh.int .i64) (List.getD (PV.cells (enc y0)) (0 + 1) default)]]))))]))))) else (if (!p) = true then (List.length (List.map enc ts) == q && q == q && decide ((q + List.length (List.drop 0 (List.take 1 [PV.agg [PV.str s, PV.int .i64 c]]))) * 24 ≤ 1099511627776) && decide (q + List.length (List.drop 0 (List.take 1 [PV.agg [PV.str s, PV.int .i64 c]])) ≤ 1099511627776)) = true ∧ (At T_pluso 0 (endO' 0 rs_pluso G) ic_pluso 1 100 [(6, (.ptr 0 0)), (7, (.ptr 1 0)), (11, (.pv (.int .i64 0))), (12, (.pv (.int .i64 0)))] [(.obj (.box [(.pv (.int .i64 0)), (.pv (.sl 0 true []))])), (.obj (.box [(.pv (.int .i64 l.k)), (.row 2 (q + List.length (List.drop 0 (List.take 1 [PV.agg [PV.str s, PV.int .i64 c]]))) 0 (q + List.length (List.drop 0 (List.take 1 [PV.agg [PV.str s, PV.int .i64 c]]))))])), (.obj (.row false 87 2 (List.map enc ts ++ List.drop 0 (List.take 1 [PV.agg [PV.str s, PV.int .i64 c]]))))]) else (At T_pluso 0 (endO' 0 rs_pluso G) ic_pluso 1 100 [(6, (.ptr 0 0)), (7, (.ptr 1 0)), (11, (.pv (.int .i64 0))), (12, (.pv (.int .i64 0)))] [(.obj (.box [(.pv (.int .i64 0)), (.pv (.sl 0 true []))])), (.obj (.box [(.pv (.int .i64 l.k)), (.row 2 q 0 q)])), (.obj (.row false 87 2 (List.map enc ts)))]))) : At T_pluso 0 (endO' 0 rs_pluso G) ic_pluso 0 100 [(1, .pv (.str s)), (2, .pv (.int .i64 c)), (3, .ptr 0 0), (6, .ptr 1 0), (7, .ptr 2 0), (8, .pv (.bool p)), (9, .pv (.int .i64 i))] [.obj (.box [.pv (.int .i64 l.k), .pv (enc l.t)]), .obj (.box [.pv (.int .i64 0), .pv (.sl 0 true [])]), .obj (.box [.pv (.int .i64 l.k), .row 3 q 0 q]), .obj (.row false 87 2 (ts.map enc))] := At.to (.lit (.ask (.req (.abs (Coef) (fun YY => AV.pv (PV.rptr (PV.cells ((enc) YY)))) (.lit (.ask (.lit (.lit (.lit (.lit (.lit (.ask (.lit (.lit (.req (.lit (.ask (.lit (.lit (.lit (.req (.lit (.nil)))))) (.lit (.lit (.req (.lit (.nil)))))))))) (.lit (.ask (.lit (.lit (.lit (.req (.lit (.nil)))))) (.lit (.lit (.req (.lit (.nil))))))))))))) (.lit (.lit (.lit (.lit (.lit (.lit (.ask (.lit (.lit (.lit (.req (.lit (.nil)))))) (.lit (.lit (.req (.lit (.nil)))))))))))))))) (.ask (.lit (.lit (.req (.nil)))) (.nil)))) h (by kernel_rfl)
def ic_timeso : IC := (.seq (.reg [⟨(some 3), (.box 2 (.t 0)), 0, none⟩, ⟨(some 4), (.box 2 (.t 1)), 1, none⟩, ⟨(some 6), (.alloc (.agg [(.int .i64 0), (.sl 0 true [])])), 2, none⟩] none) (.seq (.reg [⟨(some 9), (.faddr 0 (.t 3)), 0, none⟩, ⟨(some 10), (.load false [(.int .i64)] (.t 9)), 0, none⟩, ⟨(some 11), (.mv (.t 2)), 0, none⟩, ⟨(some 12), (.faddr 0 (.t 4)), 0, none⟩, ⟨(some 13), (.load false [(.int .i64)] (.t 12)), 0, none⟩, ⟨(some 14), (.bin .num .mul (.t 11) (.t 13)), 0, none⟩, ⟨(some 15), (.bin .num .add (.t 10) (.t 14)), 0, none⟩, ⟨(some 16), (.bslice 87 2 0 (.agg [(.str []), (.int .i64 0)]) []), 0, none⟩, ⟨(some 17), (.faddr 1 (.t 3)), 1, none⟩, ⟨(some 18), (.load false [(.sl 2)] (.t 17)), 1, none⟩, ⟨(some 19), (.append 87 2 24 (.t 16) (.t 18)), 1, none⟩, ⟨(some 20), (.build [(.int .i64 0), (.sl 0 true [])] [(0, (1, (.t 15))), (1, (1, (.t 19)))]), 2, none⟩, ⟨(some 7), (.alloc (.agg [(.int .i64 0), (.sl 0 true [])])), 2, none⟩, ⟨none, (.store 2 (.t 7) (.t 20)), 3, none⟩] (some [[], [0], [], [], [3], [2, 4, 3], [1, 5, 0, 2, 4, 3], [], [], [8], [7, 9, 8], [6, 10, 1, 5, 0, 2, 4, 3, 7, 9, 8], [], [12, 11, 10, 0, 1, 2, 3, 4, 5, 6, 7, 8, 9]])) (.seq (.seq (.reg [⟨(some 8), (.mv (.c (.int .i64 0))), 0, none⟩] none) (.block 0 (.loop [8, 4, 7, 2, 6] (.seq (.seq (.reg [⟨(some 21), (.mv (.t 8)), 0, none⟩, ⟨(some 22), (.faddr 1 (.t 4)), 0, none⟩, ⟨(some 23), (.load false [(.sl 2)] (.t 22)), 0, none⟩, ⟨(some 24), (.len 1 (.t 23)), 0, none⟩, ⟨(some 25), (.bin .num .lss (.t 21) (.t 24)), 0, none⟩] none) (.cond (.t 25) .skip (.exit 0))) (.seq (.block 1 (.reg [⟨(some 28), (.load true [(.int .i64), (.sl 2)] (.t 7)), 0, none⟩, ⟨(some 29), (.faddr 1 (.t 4)), 0, none⟩, ⟨(some 30), (.load false [(.sl 2)] (.t 29)), 0, none⟩, ⟨(some 31), (.mv (.t 8)), 0, none⟩, ⟨(some 32), (.iaddr 2 (.t 30) (.t 31)), 0, none⟩, ⟨(some 33), (.faddr 0 (.t 32)), 0, none⟩, ⟨(some 34), (.load false [.str] (.t 33)), 0, none⟩, ⟨(some 35), (.mv (.t 2)), 0, none⟩, ⟨(some 36), (.faddr 1 (.t 4)), 0, none⟩, ⟨(some 37), (.load false [(.sl 2)] (.t 36)), 0, none⟩, ⟨(some 38), (.mv (.t 8)), 0, none⟩, ⟨(some 39), (.iaddr 2 (.t 37) (.t 38)), 0, none⟩, ⟨(some 40), (.faddr 1 (.t 39)), 0, none⟩, ⟨(some 41), (.load false [(.int .i64)] (.t 40)), 0, none⟩, ⟨(some 42), (.bin .num .mul (.t 35) (.t 41)), 0, none⟩, ⟨(some 43), (.call (.c (.fn 59)) [(.t 28), (.t 34), (.t 42)]), 0, none⟩, ⟨none, (.store 2 (.t 7) (.t 43)), 2, none⟩] (some [[], [], [1], [], [2, 3, 1], [4, 2, 3, 1], [5, 4, 2, 3, 1], [], [], [8], [], [9, 10, 8], [11, 9, 10, 8], [12, 11, 9, 10, 8], [7, 13, 12, 11, 9, 10, 8], [0, 6, 14, 5, 4, 2, 3, 1, 7, 13, 12, 11, 9, 10, 8], [15, 0, 1, 2, 3, 4, 5, 6, 7, 8, 9, 10, 11, 12, 13, 14]]))) (.reg [⟨(some 26), (.mv (.t 8)), 0, none⟩, ⟨(some 27), (.bin .num .add (.t 26) (.c (.int .i64 1))), 0, none⟩, ⟨(some 8), (.mv (.t 27)), 0, none⟩] none)))))) (.seq (.reg [⟨(some 44), (.load true [(.int .i64), (.sl 2)] (.t 7)), 0, none⟩, ⟨none, (.store 2 (.t 6) (.t 44)), 0, none⟩] none) .ret))))
def rs_timeso : List IRes := [(.cell true 2 6)]
abbrev nt_timeso : Nat := 45
def T_timeso : Tab := tab [(59, .own pre_plusW val_plusW)]
theorem timeso_s {G : AV × List AObj × List AObj → Prop} (l x : Lin) (k : Int) (h : (List.isEmpty (List.map enc l.t) || Enc.sz Coef == 2) = true ∧ ((List.length ([] : List PV) == 0 && 0 == 0 && decide ((0 + List.length (List.map enc l.t)) * 24 ≤ 1099511627776) && decide (0 + List.length (List.map enc l.t) ≤ 1099511627776)) = true ∧ (At T_timeso 0 (endO' 0 rs_timeso G) ic_timeso 0 45 [(2, (.pv (.int .i64 k))), (4, (.ptr 0 0)), (6, (.ptr 1 0)), (7, (.ptr 2 0)), (8, (.pv (.int .i64 0)))] [(.obj (.box [(.pv (.int .i64 x.k)), (.pv (.sl 2 false (List.map enc x.t)))])), (.obj (.box [(.pv (.int .i64 0)), (.pv (.sl 0 true []))])), (.obj (.box [(.pv (.int .i64 (IntKind.wrap IntKind.i64 (l.k + IntKind.wrap IntKind.i64 (k * x.k))))), (.row 3 (0 + List.length (List.map enc l.t)) 0 (0 + List.length (List.map enc l.t)))])), (.obj (.row false 87 2 (([] : List PV) ++ List.map enc l.t)))]))) : Gets T_timeso 0 (endO' 0 rs_timeso G) ic_timeso [] (st0O 45 [.pv (enc l), .pv (enc x), .pv (enc k)] []) := Gets.to (.lit (.lit (.lit (.req (.req (.nil)))))) h (by kernel_rfl)
theorem timeso_h0r {G : AV × List AObj × List AObj → Prop} (l x : Lin) (k : Int) (c : Int) (q w : Nat) (ts : List Coef) (i : Int) (h : if (decide (i < (↑(List.length (List.map enc x.t)) : Int))) = true then (decide (0 ≤ i) && decide (Int.toNat i < List.length (List.map enc x.t)) && Enc.sz Coef == 2) = true ∧ (∃ y0 : Coef, AV.pv (PV.rptr (PV.cells (List.getD (List.map enc x.t) (Int.toNat i) default))) = AV.pv (PV.rptr (PV.cells ((enc) y0))) ∧ ((decide (0 ≤ i) && decide (Int.toNat i < List.length (List.map enc x.t)) && Enc.sz Coef == 2) = true ∧ (∃ y1 : Coef, AV.pv (PV.rptr (PV.cells (List.getD (List.map enc x.t) (Int.toNat i) default))) = AV.pv (PV.rptr (PV.cells ((enc) y1))) ∧ ((pre_plusW [(.agg [(.pv (.int .i64 c)), (.row 0 q 0 w)]), (.pv (.str (PV.asStr (List.getD (List.drop 0 (PV.cells (enc y0))) 0 default)))), (.pv (.int .i64 (IntKind.wrap IntKind.i64 (k * PV.asInt (List.getD (List.drop 1 (PV.cells (enc y1))) 0 default)))))] [(.row false 87 2 (List.map enc ts))]) = true ∧ (At T_timeso 0 (endO' 0 rs_timeso G) ic_timeso 0 45 [(2, (.pv (.int .i64 k))), (4, (.ptr 0 0)), (6, (.ptr 1 0)), (7, (.ptr 2 0)), (8, (.pv (.int .i64 (IntKind.wrap IntKind.i64 (i + 1)))))] [(.obj (.box [(.pv (.int .i64 x.k)), (.pv (.sl 2 false (List.map enc x.t)))])), (.obj (.box [(.pv (.int .i64 0)), (.pv (.sl 0 true []))])), (.obj (.box [(.pv (.int .i64 (LR.k (plusR (linW c w (List.map enc ts)) (Str.mk (PV.asStr (List.getD (List.drop 0 (PV.cells (enc y0))) 0 default))) (IntKind.wrap IntKind.i64 (k * PV.asInt (List.getD (List.drop 1 (PV.cells (enc y1))) 0 default))))))), (.row 3 (List.length (LR.ts (plusR (linW c w (List.map enc ts)) (Str.mk (PV.asStr (List.getD (List.drop 0 (PV.cells (enc y0))) 0 default))) (IntKind.wrap IntKind.i64 (k * PV.asInt (List.getD (List.drop 1 (PV.cells (enc y1))) 0 default)))))) 0 (LR.w (plusR (linW c w (List.map enc ts)) (Str.mk (PV.asStr (List.getD (List.drop 0 (PV.cells (enc y0))) 0 default))) (IntKind.wrap IntKind.i64 (k * PV.asInt (List.getD (List.drop 1 (PV.cells (enc y1))) 0 default))))))])), (.obj (.row false 87 2 (List.map enc (LR.ts (plusR (linW c w (List.map enc ts)) (Str.mk (PV.asStr (List.getD (List.drop 0 (PV.cells (enc y0))) 0 default))) (IntKind.wrap IntKind.i64 (k * PV.asInt (List.getD (List.drop 1 (PV.cells (enc y1))) 0 default))))))))]))))) else (G (((.agg [(.pv (.int .i64 c)), (.row 0 q 0 w)]), ([], [(.row false 87 2 (List.map enc ts))]))))) : At T_timeso 0 (endO' 0 rs_timeso G) ic_timeso 0 45 [(2, .pv (.int .i64 k)), (4, .ptr 0 0), (6, .ptr 1 0), (7, .ptr 2 0), (8, .pv (.int .i64 i))] [.obj (.box [.pv (.int .i64 x.k), .pv (enc x.t)]), .obj (.box [.pv (.int .i64 0), .pv (.sl 0 true [])]), .obj (.box [.pv (.int .i64 c), .row 3 q 0 w]), .obj (.row false 87 2 (ts.map enc))] := At.to (.lit (.ask (.req (.abs (Coef) (fun YY => AV.pv (PV.rptr (PV.cells ((enc) YY)))) (.lit (.req (.abs (Coef) (fun YY => AV.pv (PV.rptr (PV.cells ((enc) YY)))) (.lit (.lit (.req (.keep (.lit (.nil))))))))))) (.nil))) h (by kernel_rfl)
end Go.Pl

namespace Go.Pl
open Go.RowKit
open Enc (enc dec is)
open EncL (encL decL isL)
theorem getD_eq {ts : List Coef} {i : Nat} (h : i < ts.length) : ts.getD i ⟨⟨[]⟩, 0⟩ = ts[i] := by simp [List.getD, h]
theorem pluso_l1 (l : Lin) (s : List UInt8) (c : Int) (q : Nat) (ho : q ≤ 2000000) : ∀ (m i j : Nat) (ts : List Coef), m + i = q → ts.length = q → j ≤ i →
    At T_pluso 0 (endO' 0 rs_pluso (fun r => r = newR ⟨l.k, (compL m i j ts).2, (compL m i j ts).1⟩ 0 [])) ic_pluso 1 100 [(6, .ptr 0 0), (7, .ptr 1 0), (11, .pv (.int .i64 j)), (12, .pv (.int .i64 i))] [.obj (.box [.pv (.int .i64 0), .pv (.sl 0 true [])]), .obj (.box [.pv (.int .i64 l.k), .row 2 q 0 q]), .obj (.row false 87 2 (ts.map enc))] := by
  intro m
  induction m with
  | zero =>
    intro i j ts hm hts hji
    refine pluso_h1r l s c j i q ts (iteF (by simp; omega) ?_)
    refine ⟨by simp [hts]; omega, ?_⟩
    subst hts
    simp only [Int.toNat_natCast, Nat.zero_add]
    rfl
  | succ m ih =>
    intro i j ts hm hts hji
    have hi' : i < ts.length := by omega
    have hj' : j < ts.length := by omega
    refine pluso_h1r l s c j i q ts ?_
    simp only [getD_z enc hi', getD_z enc hj']
    refine iteT (by simp; omega) ⟨by simp; omega, by simp; omega, rfl, ?_⟩
    rw [compL, getD_eq hi']
    by_cases hz : ts[i].c = 0
    · refine iteF (by show ¬ (ts[i].c != 0) = true; simp [hz]) ?_
      rw [next (by omega), if_pos hz]
      exact ih (i + 1) j ts (by omega) hts (by omega)
    · refine iteT (by show (ts[i].c != 0) = true; simp [hz]) ⟨by simp; omega, by simp; omega, rfl, by simp; omega, ?_, ?_⟩
      · simp only [List.length_map, hts, beq_self_eq_true, Bool.true_and, Nat.zero_add, Int.toNat_natCast, decide_eq_true (show j < q by omega)]
        rfl
      · rw [Nat.zero_add, Int.toNat_natCast, set_cell, next (by omega), next (by omega), if_neg hz]
        exact ih (i + 1) (j + 1) (ts.set j ts[i]) (by omega) (by simp [hts]) (by omega)
theorem pluso_end (l : Lin) (s : List UInt8) (c : Int) (o : List Coef) (ho : o.length ≤ 2000000) :
    At T_pluso 0 (endO' 0 rs_pluso (fun r => r = newR (packR l.k o) 0 [])) ic_pluso 1 100 [(6, .ptr 0 0), (7, .ptr 1 0), (11, .pv (.int .i64 0)), (12, .pv (.int .i64 0))] [.obj (.box [.pv (.int .i64 0), .pv (.sl 0 true [])]), .obj (.box [.pv (.int .i64 l.k), .row 2 o.length 0 o.length]), .obj (.row false 87 2 (o.map enc))] :=
  pluso_l1 l s c o.length ho o.length 0 0 o (by omega) rfl (by omega)
theorem pluso_l0 (l : Lin) (s : List UInt8) (c : Int) (hl : l.t.length ≤ 1000000) : ∀ (m i : Nat) (p : Bool) (q : Nat) (ts : List Coef), m + i = l.t.length → q = ts.length → (p = false → ts.length ≤ i) → ts.length ≤ i + 1 →
    At T_pluso 0 (endO' 0 rs_pluso (fun r => r = newR (packR l.k (ts ++ insT ⟨s⟩ c p (l.t.drop i))) 0 [])) ic_pluso 0 100 [(1, .pv (.str s)), (2, .pv (.int .i64 c)), (3, .ptr 0 0), (6, .ptr 1 0), (7, .ptr 2 0), (8, .pv (.bool p)), (9, .pv (.int .i64 i))]
      [.obj (.box [.pv (.int .i64 l.k), .pv (enc l.t)]), .obj (.box [.pv (.int .i64 0), .pv (.sl 0 true [])]), .obj (.box [.pv (.int .i64 l.k), .row 3 q 0 q]), .obj (.row false 87 2 (ts.map enc))] := by
  intro m
  induction m with
  | zero =>
    intro i p q ts hm hq h1 h2
    refine pluso_h0b l s c p i q ts (iteF (lt_no (by omega)) ?_)
    rw [List.drop_of_length_le (show l.t.length ≤ i by omega)]
    refine iteN (fun hp => ?_) fun hp => ?_
    · subst hp
      refine ⟨by simp [hq]; omega, ?_⟩
      have h := pluso_end l s c (ts ++ [⟨⟨s⟩, c⟩]) (by simp; omega)
      rw [List.map_append, List.length_append, ← hq] at h
      rw [insT]
      exact h
    · subst hp
      have h := pluso_end l s c ts (by omega)
      rw [← hq] at h
      rw [insT, if_pos rfl, List.append_nil]
      exact h
  | succ m ih =>
    intro i p q ts hm hq h1 h2
    have hlt : i < l.t.length := by omega
    refine pluso_h0b l s c p i q ts (iteT (lt_ok hlt) ⟨idx_ok hlt rfl, el_ex hlt ?_⟩)
    rw [List.drop_eq_getElem_cons hlt, next (by omega)]
    have key : ∀ (p' : Bool) (add : List Coef), add.length ≤ 2 → (p' = false → (ts ++ add).length ≤ i + 1) → (ts ++ add).length ≤ i + 2 → ts ++ insT ⟨s⟩ c p (l.t[i] :: l.t.drop (i + 1)) = (ts ++ add) ++ insT ⟨s⟩ c p' (l.t.drop (i + 1)) →
        At T_pluso 0 (endO' 0 rs_pluso (fun r => r = newR (packR l.k (ts ++ insT ⟨s⟩ c p (l.t[i] :: l.t.drop (i + 1)))) 0 [])) ic_pluso 0 100 [(1, .pv (.str s)), (2, .pv (.int .i64 c)), (3, .ptr 0 0), (6, .ptr 1 0), (7, .ptr 2 0), (8, .pv (.bool p')), (9, .pv (.int .i64 ((i + 1 : Nat) : Int)))]
          [.obj (.box [.pv (.int .i64 l.k), .pv (enc l.t)]), .obj (.box [.pv (.int .i64 0), .pv (.sl 0 true [])]), .obj (.box [.pv (.int .i64 l.k), .row 3 (q + add.length) 0 (q + add.length)]), .obj (.row false 87 2 (ts.map enc ++ add.map enc))] := by
      intro p' add h3 h4 h5 h6
      rw [h6, ← List.map_append]
      exact ih (i + 1) p' (q + add.length) (ts ++ add) (by omega) (by simp [hq]) h4 h5
    generalize l.t[i] = y at key ⊢
    obtain ⟨⟨yv⟩, yc⟩ := y
    subst hq
    refine iteN (fun hp => ?_) fun hp => ?_
    · subst hp
      have hle := h1 rfl
      refine iteN (fun hb => ?_) fun hb => ?_
      · have hb : (Op.bytesLess yv s || yv == s) = false := hb
        have hlt2 : s < yv := by
          simp only [bytesLess_eq, Bool.or_eq_false_iff, decide_eq_false_iff_not, beq_eq_false_iff_ne] at hb
          exact tri hb.1 hb.2
        have hne : ¬ yv = s := fun e => by rw [e] at hlt2; exact List.lt_irrefl _ hlt2
        refine ⟨by simp; omega, iteE (fun h => absurd h hne) fun _ => ⟨by simp; omega, ?_⟩⟩
        have := key true [⟨⟨s⟩, c⟩, ⟨⟨yv⟩, yc⟩] (by simp) (fun h => by cases h) (by simp; omega) (by rw [ins_f, if_pos hlt2]; simp)
        rw [List.append_assoc]
        exact this
      · have hb : (Op.bytesLess yv s || yv == s) = true := hb
        have hnl : ¬ s < yv := by
          simp only [bytesLess_eq, Bool.or_eq_true, decide_eq_true_eq, beq_iff_eq] at hb
          rcases hb with h | h
          · exact List.lt_asymm h
          · rw [h]; exact List.lt_irrefl _
        refine iteE (fun h => ?_) fun h => ?_
        · have h : yv = s := h
          subst h
          refine ⟨by simp; omega, ?_⟩
          exact key true [⟨⟨yv⟩, w64 (yc + c)⟩] (by simp) (fun h => by cases h) (by simp; omega) (by rw [ins_f, if_neg hnl, if_pos rfl]; simp)
        · have h : yv ≠ s := h
          refine ⟨by simp; omega, ?_⟩
          exact key false [⟨⟨yv⟩, yc⟩] (by simp) (fun _ => by simp; omega) (by simp; omega) (by rw [ins_f, if_neg hnl, if_neg (by rw [str_ext]; exact h)]; simp)
    · subst hp
      refine iteE (fun h => ?_) fun h => ?_
      · have h : yv = s := h
        subst h
        refine ⟨by simp; omega, ?_⟩
        exact key true [⟨⟨yv⟩, w64 (yc + c)⟩] (by simp) (fun h => by cases h) (by simp; omega) (by rw [ins_t, if_pos rfl]; simp)
      · have h : yv ≠ s := h
        refine ⟨by simp; omega, ?_⟩
        exact key true [⟨⟨yv⟩, yc⟩] (by simp) (fun h => by cases h) (by simp; omega) (by rw [ins_t, if_neg (by rw [str_ext]; exact h)]; simp)
theorem pluso_get (l : Lin) (s : List UInt8) (c : Int) (hl : l.t.length ≤ 1000000) : Gets T_pluso 0 (endO' 0 rs_pluso (fun r => r = newR (plusR l ⟨s⟩ c) 0 [])) ic_pluso [] (st0O nt_pluso [.pv (enc l), .pv (.str s), .pv (enc c)] []) := by
  refine pluso_s l s c (pluso_h0a l s c false 0 ?_)
  show if _ then _ else (if _ then At T_pluso 0 (endO' 0 rs_pluso (fun r => r = newR (packR l.k (insT ⟨s⟩ c false l.t)) 0 [])) _ _ _ _ _ else _)
  by_cases h0 : l.t = []
  · refine iteF (by simp [h0]) (iteT rfl ?_)
    have h := pluso_end l s c [⟨⟨s⟩, c⟩] (by simp)
    rw [h0, insT]
    exact h
  · have hlt : 0 < l.t.length := List.length_pos_iff.2 h0
    refine iteT (by simp; omega) ⟨by simp [Enc.sz]; omega, el_ex hlt ?_⟩
    have ed : l.t = l.t[0] :: l.t.drop 1 := by
      have := List.drop_eq_getElem_cons hlt
      rwa [List.drop_zero] at this
    have key : ∀ (p' : Bool) (add : List Coef), add.length ≤ 2 → (p' = false → add.length ≤ 1) → insT ⟨s⟩ c false (l.t[0] :: l.t.drop 1) = add ++ insT ⟨s⟩ c p' (l.t.drop 1) →
        At T_pluso 0 (endO' 0 rs_pluso (fun r => r = newR (packR l.k (insT ⟨s⟩ c false l.t)) 0 [])) ic_pluso 0 100 [(1, .pv (.str s)), (2, .pv (.int .i64 c)), (3, .ptr 0 0), (6, .ptr 1 0), (7, .ptr 2 0), (8, .pv (.bool p')), (9, .pv (.int .i64 ((0 + 1 : Nat) : Int)))]
          [.obj (.box [.pv (.int .i64 l.k), .pv (enc l.t)]), .obj (.box [.pv (.int .i64 0), .pv (.sl 0 true [])]), .obj (.box [.pv (.int .i64 l.k), .row 3 add.length 0 add.length]), .obj (.row false 87 2 (add.map enc))] := by
      intro p' add h3 h4 h6
      have h7 : insT ⟨s⟩ c false l.t = add ++ insT ⟨s⟩ c p' (l.t.drop 1) := by rw [← h6, ← ed]
      rw [h7]
      exact pluso_l0 l s c hl (l.t.length - 1) (0 + 1) p' add.length add (by omega) rfl (fun h => h4 h) (by omega)
    rw [show IntKind.wrap IntKind.i64 (0 + 1) = ((0 + 1 : Nat) : Int) from rfl]
    generalize l.t[0] = y at key ⊢
    obtain ⟨⟨yv⟩, yc⟩ := y
    refine iteT rfl ?_
    refine iteN (fun hb => ?_) fun hb => ?_
    · have hb : (Op.bytesLess yv s || yv == s) = false := hb
      have hlt2 : s < yv := by
        simp only [bytesLess_eq, Bool.or_eq_false_iff, decide_eq_false_iff_not, beq_eq_false_iff_ne] at hb
        exact tri hb.1 hb.2
      have hne : ¬ yv = s := fun e => by rw [e] at hlt2; exact List.lt_irrefl _ hlt2
      refine iteE (fun h => absurd h hne) fun _ => ?_
      exact key true [⟨⟨s⟩, c⟩, ⟨⟨yv⟩, yc⟩] (by simp) (fun h => by cases h) (by rw [ins_f, if_pos hlt2]; simp)
    · have hb : (Op.bytesLess yv s || yv == s) = true := hb
      have hnl : ¬ s < yv := by
        simp only [bytesLess_eq, Bool.or_eq_true, decide_eq_true_eq, beq_iff_eq] at hb
        rcases hb with h | h
        · exact List.lt_asymm h
        · rw [h]; exact List.lt_irrefl _
      refine iteE (fun h => ?_) fun h => ?_
      · have h : yv = s := h
        subst h
        exact key true [⟨⟨yv⟩, w64 (yc + c)⟩] (by simp) (fun h => by cases h) (by rw [ins_f, if_neg hnl, if_pos rfl]; simp)
      · have h : yv ≠ s := h
        exact key false [⟨⟨yv⟩, yc⟩] (by simp) (fun _ => by simp) (by rw [ins_f, if_neg hnl, if_neg (by rw [str_ext]; exact h)]; simp)
theorem pluso_run : ∀ args os, pre_plusF args os = true → Gets T_pluso os.length (endO' os.length rs_pluso fun r => r = val_plusF args os) ic_pluso [] (st0O nt_pluso args os) := by
  intro args os h
  unfold pre_plusF at h
  split at h
  · rename_i l s c
    simp only [Bool.and_eq_true, decide_eq_true_eq] at h
    obtain ⟨hl, h1⟩ := h
    obtain ⟨l, rfl⟩ := can_eq hl
    rw [Enc.dec_enc] at h1
    have ev : val_plusF [.pv (enc l), .pv (.str s), .pv (.int .i64 c)] [] = newR (plusR l ⟨s⟩ c) 0 [] := by
      show newR (plusR (dec (enc l : PV)) ⟨s⟩ c) 0 [] = _
      rw [Enc.dec_enc]
    rw [ev]
    exact pluso_get l s c h1
  · cases h
end Go.Pl

namespace Go.Pl
open Go.RowKit
open Enc (enc dec is)
open EncL (encL decL isL)
theorem linW_eq (r : LR) : linW r.k r.w (r.ts.map enc) = r.view := by
  unfold linW
  rw [show (dec (PV.sl 2 false (r.ts.map enc)) : List Coef) = r.ts from Enc.dec_enc r.ts]
  rfl
theorem can_row (ts : List Coef) : can (List Coef) (.sl 2 false (ts.map enc)) = true := can_enc (α := List Coef) ts
def plusRN (k : Int) (o : LR) (t : Coef) : LR := plusR o.view t.v (w64 (k * t.c))
theorem plusR_w (l : Lin) (s : Str) (c : Int) : (plusR l s c).w ≤ (plusR l s c).ts.length ∧ (plusR l s c).w ≤ l.t.length + 1 := by
  have h1 := pack_w l.k (insT s c false l.t)
  have h2 := pack_len l.k (insT s c false l.t)
  have h3 := ins_len_f s c l.t
  exact ⟨by show (packR _ _).w ≤ (packR _ _).ts.length; omega, by show (packR _ _).w ≤ _; omega⟩
theorem timeso_loop (l x : Lin) (k : Int) (hx : x.t.length ≤ 500000) : ∀ (m i : Nat) (r : LR), m + i = x.t.length → r.w ≤ r.ts.length → r.w ≤ 500000 + i →
    At T_timeso 0 (endO' 0 rs_timeso (fun z => z = newR ((x.t.drop i).foldl (plusRN k) r) 0 [])) ic_timeso 0 45 [(2, .pv (.int .i64 k)), (4, .ptr 0 0), (6, .ptr 1 0), (7, .ptr 2 0), (8, .pv (.int .i64 i))] [.obj (.box [.pv (.int .i64 x.k), .pv (enc x.t)]), .obj (.box [.pv (.int .i64 0), .pv (.sl 0 true [])]), .obj (.box [.pv (.int .i64 r.k), .row 3 r.ts.length 0 r.w]), .obj (.row false 87 2 (r.ts.map enc))] := by
  intro m
  induction m with
  | zero =>
    intro i r hi hw ho
    refine timeso_h0r l x k r.k r.ts.length r.w r.ts i (iteF (lt_no (by omega)) ?_)
    rw [List.drop_of_length_le (show x.t.length ≤ i by omega)]
    rfl
  | succ m ih =>
    intro i r hi hw ho
    have hlt : i < x.t.length := by omega
    refine timeso_h0r l x k r.k r.ts.length r.w r.ts i (iteT (lt_ok hlt) ⟨idx_ok hlt rfl, el_ex hlt ⟨idx_ok hlt rfl, el_ex hlt ⟨?_, ?_⟩⟩⟩)
    · show (can (List Coef) (.sl 2 false (r.ts.map enc)) && (r.ts.map (enc : Coef → PV)).length == r.ts.length && decide (r.w ≤ r.ts.length) && decide (r.w ≤ 1000000)) = true
      rw [can_row, List.length_map, decide_eq_true hw, decide_eq_true (show r.w ≤ 1000000 by omega)]
      simp
    · rw [linW_eq, List.drop_eq_getElem_cons hlt, List.foldl_cons, next (by omega)]
      have hp := plusR_w r.view x.t[i].v (w64 (k * x.t[i].c))
      have hv : r.view.t.length ≤ r.w := by show (r.ts.take r.w).length ≤ _; simp; omega
      exact ih (i + 1) (plusRN k r x.t[i]) (by omega) hp.1 (by have := hp.2; show (plusR r.view x.t[i].v (w64 (k * x.t[i].c))).w ≤ _; omega)
theorem timeso_get (l x : Lin) (k : Int) (hl : l.t.length ≤ 500000) (hx : x.t.length ≤ 500000) : Gets T_timeso 0 (endO' 0 rs_timeso (fun z => z = newR (timesR l x k) 0 [])) ic_timeso [] (st0O nt_timeso [.pv (enc l), .pv (enc x), .pv (enc k)] []) := by
  refine timeso_s l x k ⟨by simp [Enc.sz], by simp; omega, ?_⟩
  have hq : (0 + List.length (List.map (enc : Coef → PV) l.t)) = l.t.length := by simp
  rw [hq, List.nil_append]
  have h := timeso_loop l x k hx x.t.length 0 ⟨w64 (l.k + w64 (k * x.k)), l.t.length, l.t⟩ (by omega) (Nat.le_refl _) (by show l.t.length ≤ _; omega)
  exact h
theorem timeso_run : ∀ args os, pre_timesF args os = true → Gets T_timeso os.length (endO' os.length rs_timeso fun r => r = val_times args os) ic_timeso [] (st0O nt_timeso args os) := by
  intro args os h
  unfold pre_timesF at h
  split at h
  · rename_i l x k
    simp only [Bool.and_eq_true, decide_eq_true_eq] at h
    obtain ⟨⟨⟨hl, hx⟩, h1⟩, h2⟩ := h
    obtain ⟨l, rfl⟩ := can_eq hl
    obtain ⟨x, rfl⟩ := can_eq hx
    rw [Enc.dec_enc] at h1 h2
    have ev : val_times [.pv (enc l), .pv (enc x), .pv (.int .i64 k)] [] = newR (timesR l x k) 0 [] := by
      show newR (timesR (dec (enc l : PV)) (dec (enc x : PV)) k) 0 [] = _
      rw [Enc.dec_enc, Enc.dec_enc]
    rw [ev]
    exact timeso_get l x k h1 h2
  · cases h
theorem SubL.rfl (ps : List PV) : SubL ps ps := ⟨Eq.refl _, fun j x y hx hy Φ v h => by rw [hx] at hy; cases hy; exact h⟩
theorem own_new {pre : List AV → List AObj → Bool} {val : List AV → List AObj → AV × List AObj × List AObj} {a b c : PV} {r : LR} {o : AObj} (h1 : pre [.pv a, .pv b, .pv c] [] = true) (h2 : val [.pv a, .pv b, .pv c] [] = newR r 0 []) :
    (ownCall 1 pre val [.pv a, .pv b, .pv c]).run [.obj o, .fresh] = some (r.av 1, [.obj o, .obj r.ob]) := by
  have H : ∀ (t : Bool) (v : AV × List AObj × List AObj), t = true → v = newR r 0 [] → (HM.req t (match v with
      | (x, os, ext) => match x.ren (bwd [] 1), renOs (bwd [] 1) os, renOs (bwd [] 1) ext with
        | some x', some os', some ext' => if os'.length = ([] : List Nat).length then putAll (([] : List Nat).zip os') (newAll 1 ext' (.ret x')) else .fail
        | _, _, _ => .fail)).run [.obj o, .fresh] = some (r.av 1, [.obj o, .obj r.ob]) := by
    rintro _ _ rfl rfl
    rfl
  exact H _ _ h1 h2
theorem pack_new (fz : Bool) (ty : Nat) (xs : List PV) (r : LR) : packO 1 (reach 256 (List.range 1 ++ refsL [r.av 1]) [] [.obj (.row fz ty 2 xs), .obj r.ob]) [r.av 1] [.obj (.row fz ty 2 xs), .obj r.ob] = some ([r.av 1], [.row fz ty 2 xs, r.ob]) := by
  obtain ⟨k, w, ts⟩ := r
  rfl
theorem plus_thaw {P : Program} {f : Nat} (h : OwnOK P f pre_plusF val_plusF) : OwnOK P f pre_plusW val_plusW := by
  refine OwnOK.thaw h fun args os hp => ?_
  unfold pre_plusW at hp
  split at hp
  · rename_i k q w s c fz ty xs
    simp only [Bool.and_eq_true, decide_eq_true_eq, beq_iff_eq] at hp
    obtain ⟨⟨⟨hc, hq⟩, hw⟩, hw2⟩ := hp
    obtain ⟨ts, e⟩ := can_eq hc
    have e : xs = ts.map enc := by cases e; rfl
    subst e
    have hq : ts.length = q := by simpa using hq
    subst hq
    have ed : (dec (PV.sl 2 false (ts.map enc)) : List Coef) = ts := Enc.dec_enc ts
    have ev : val_plusW [.agg [.pv (.int .i64 k), .row 0 ts.length 0 w], .pv (.str s), .pv (.int .i64 c)] [.row fz ty 2 (ts.map enc)] = newR (plusR ⟨k, ts.take w⟩ ⟨s⟩ c) 1 [.row true ty 2 (ts.map enc)] := by
      show newR (plusR ⟨k, List.take w (dec (PV.sl 2 false (ts.map enc)) : List Coef)⟩ ⟨s⟩ c) 1 _ = _
      rw [ed]
    rw [ev]
    have e2 : (.sl 2 false (List.drop 0 (List.take w (List.map (enc : Coef → PV) ts))) : PV) = enc (ts.take w) := by rw [List.drop_zero, ← List.map_take]; rfl
    have hcan : pre_plusF [.pv (.agg [.int .i64 k, .sl 2 false (List.drop 0 (List.take w (List.map (enc : Coef → PV) ts)))]), .pv (.str s), .pv (.int .i64 c)] [] = true := by
      rw [e2]
      show (can Lin (enc (⟨k, ts.take w⟩ : Lin)) && decide ((dec (enc (⟨k, ts.take w⟩ : Lin) : PV) : Lin).t.length ≤ 1000000)) = true
      rw [can_enc, Enc.dec_enc]
      simp; omega
    have hval : val_plusF [.pv (.agg [.int .i64 k, .sl 2 false (List.drop 0 (List.take w (List.map (enc : Coef → PV) ts)))]), .pv (.str s), .pv (.int .i64 c)] [] = newR (plusR ⟨k, ts.take w⟩ ⟨s⟩ c) 0 [] := by
      rw [e2]
      show newR (plusR (dec (enc (⟨k, ts.take w⟩ : Lin) : PV)) ⟨s⟩ c) 0 [] = _
      rw [Enc.dec_enc]
    generalize plusR ⟨k, ts.take w⟩ ⟨s⟩ c = r at hval ⊢
    generalize hsl : List.drop 0 (List.take w (List.map (enc : Coef → PV) ts)) = sl at hcan hval
    have hl : (List.map (enc : Coef → PV) ts).length = ts.length := by simp
    generalize List.map (enc : Coef → PV) ts = xs at hl hsl ⊢
    rw [← hl]
    refine ⟨1, [.agg [.int .i64 k, .sl 2 false sl], .str s, .int .i64 c], [.agg [.int .i64 k, .sl 2 false sl], .str s, .int .i64 c], [.obj (.row true ty 2 xs), .fresh], r.av 1, [.obj (.row true ty 2 xs), .obj r.ob], r.av 1, [.row true ty 2 xs, r.ob], SubL.rfl _, ?_, ?_, ?_, rfl⟩
    · subst hsl
      simp [frzL, frz, HM.bind, HM.run, objs, HM.req]
      done
    · exact own_new hcan hval
    · exact pack_new true ty xs r
  · cases hp
def pre_timesW : List AV → List AObj → Bool
  | [.agg [.pv (.int .i64 c), .row 0 q 0 w], .pv x, .pv (.int .i64 k)], [.row fz ty 2 xs] => can (List Coef) (.sl 2 false xs) && can Lin x && xs.length == q && decide (w ≤ q) && decide (w ≤ 500000) && decide ((dec x : Lin).t.length ≤ 500000)
  | _, _ => false
def pre_timesA : List AV → List AObj → Bool
  | [.pv a, .pv x, .pv (.int .i64 k)], [] => is Lin a && can Lin x && decide ((dec a : Lin).t.length ≤ 500000) && decide ((dec x : Lin).t.length ≤ 500000)
  | _, _ => false
theorem timesW_thaw {P : Program} {f : Nat} (h : OwnOK P f pre_timesF val_times) : OwnOK P f pre_timesW val_times := by
  refine OwnOK.thaw h fun args os hp => ?_
  unfold pre_timesW at hp
  split at hp
  · rename_i k q w x c fz ty xs
    simp only [Bool.and_eq_true, decide_eq_true_eq, beq_iff_eq] at hp
    obtain ⟨⟨⟨⟨⟨hc, hx⟩, hq⟩, hw⟩, hw2⟩, hx2⟩ := hp
    obtain ⟨ts, e⟩ := can_eq hc
    have e : xs = ts.map enc := by cases e; rfl
    subst e
    have hq : ts.length = q := by simpa using hq
    subst hq
    have ed : (dec (PV.sl 2 false (ts.map enc)) : List Coef) = ts := Enc.dec_enc ts
    have ev : val_times [.agg [.pv (.int .i64 k), .row 0 ts.length 0 w], .pv x, .pv (.int .i64 c)] [.row fz ty 2 (ts.map enc)] = newR (timesR ⟨k, ts.take w⟩ (dec x) c) 1 [.row true ty 2 (ts.map enc)] := by
      show newR (timesR ⟨k, List.take w (dec (PV.sl 2 false (ts.map enc)) : List Coef)⟩ (dec x) c) 1 _ = _
      rw [ed]
    rw [ev]
    have e2 : (.sl 2 false (List.drop 0 (List.take w (List.map (enc : Coef → PV) ts))) : PV) = enc (ts.take w) := by rw [List.drop_zero, ← List.map_take]; rfl
    have hcan : pre_timesF [.pv (.agg [.int .i64 k, .sl 2 false (List.drop 0 (List.take w (List.map (enc : Coef → PV) ts)))]), .pv x, .pv (.int .i64 c)] [] = true := by
      rw [e2]
      show (can Lin (enc (⟨k, ts.take w⟩ : Lin)) && can Lin x && decide ((dec (enc (⟨k, ts.take w⟩ : Lin) : PV) : Lin).t.length ≤ 500000) && decide ((dec x : Lin).t.length ≤ 500000)) = true
      rw [can_enc, Enc.dec_enc, hx, decide_eq_true hx2]
      simp; omega
    have hval : val_times [.pv (.agg [.int .i64 k, .sl 2 false (List.drop 0 (List.take w (List.map (enc : Coef → PV) ts)))]), .pv x, .pv (.int .i64 c)] [] = newR (timesR ⟨k, ts.take w⟩ (dec x) c) 0 [] := by
      rw [e2]
      show newR (timesR (dec (enc (⟨k, ts.take w⟩ : Lin) : PV)) (dec x) c) 0 [] = _
      rw [Enc.dec_enc]
    generalize timesR ⟨k, ts.take w⟩ (dec x) c = r at hval ⊢
    generalize hsl : List.drop 0 (List.take w (List.map (enc : Coef → PV) ts)) = sl at hcan hval
    have hl : (List.map (enc : Coef → PV) ts).length = ts.length := by simp
    generalize List.map (enc : Coef → PV) ts = xs at hl hsl ⊢
    rw [← hl]
    refine ⟨1, [.agg [.int .i64 k, .sl 2 false sl], x, .int .i64 c], [.agg [.int .i64 k, .sl 2 false sl], x, .int .i64 c], [.obj (.row true ty 2 xs), .fresh], r.av 1, [.obj (.row true ty 2 xs), .obj r.ob], r.av 1, [.row true ty 2 xs, r.ob], SubL.rfl _, ?_, ?_, ?_, rfl⟩
    · subst hsl
      simp [frzL, frz, HM.bind, HM.run, objs, HM.req]
      done
    · exact own_new hcan hval
    · exact pack_new true ty xs r
  · cases hp
theorem own_new0 {pre : List AV → List AObj → Bool} {val : List AV → List AObj → AV × List AObj × List AObj} {a b c : PV} {r : LR} (h1 : pre [.pv a, .pv b, .pv c] [] = true) (h2 : val [.pv a, .pv b, .pv c] [] = newR r 0 []) :
    (ownCall 0 pre val [.pv a, .pv b, .pv c]).run [.fresh] = some (r.av 0, [.obj r.ob]) := by
  have H : ∀ (t : Bool) (v : AV × List AObj × List AObj), t = true → v = newR r 0 [] → (HM.req t (match v with
      | (x, os, ext) => match x.ren (bwd [] 0), renOs (bwd [] 0) os, renOs (bwd [] 0) ext with
        | some x', some os', some ext' => if os'.length = ([] : List Nat).length then putAll (([] : List Nat).zip os') (newAll 0 ext' (.ret x')) else .fail
        | _, _, _ => .fail)).run [.fresh] = some (r.av 0, [.obj r.ob]) := by
    rintro _ _ rfl rfl
    rfl
  exact H _ _ h1 h2
theorem pack_new0 (r : LR) : packO 0 (reach 256 (List.range 0 ++ refsL [r.av 0]) [] [.obj r.ob]) [r.av 0] [.obj r.ob] = some ([r.av 0], [r.ob]) := by
  obtain ⟨k, w, ts⟩ := r
  rfl
theorem timesA_thaw {P : Program} {f : Nat} (h : OwnOK P f pre_timesF val_times) : OwnOK P f pre_timesA val_times := by
  refine OwnOK.thaw h fun args os hp => ?_
  unfold pre_timesA at hp
  split at hp
  · rename_i a x k
    simp only [Bool.and_eq_true, decide_eq_true_eq] at hp
    obtain ⟨⟨⟨hi, hx⟩, h1⟩, h2⟩ := hp
    have ev : val_times [.pv a, .pv x, .pv (.int .i64 k)] [] = newR (timesR (dec a) (dec x) k) 0 [] := rfl
    rw [ev]
    have hsub := (Enc.sub (α := Lin) a hi).2
    generalize (dec a : Lin) = l at hsub h1 ⊢
    have hcan : pre_timesF [.pv (enc l), .pv x, .pv (.int .i64 k)] [] = true := by
      show (can Lin (enc l) && can Lin x && decide ((dec (enc l : PV) : Lin).t.length ≤ 500000) && decide ((dec x : Lin).t.length ≤ 500000)) = true
      rw [can_enc, Enc.dec_enc, hx, decide_eq_true h1, decide_eq_true h2]; rfl
    have hval : val_times [.pv (enc l), .pv x, .pv (.int .i64 k)] [] = newR (timesR l (dec x) k) 0 [] := by
      show newR (timesR (dec (enc l : PV)) (dec x) k) 0 [] = _
      rw [Enc.dec_enc]
    generalize timesR l (dec x) k = r at hval ⊢
    refine ⟨1, [a, x, .int .i64 k], [enc l, x, .int .i64 k], [.fresh], r.av 0, [.obj r.ob], r.av 0, [r.ob], ?_, ?_, ?_, ?_, rfl⟩
    · exact SubL.cons hsub (SubL.rfl _)
    · simp [frzL, frz, HM.bind, HM.run, objs, HM.req]
    · exact own_new0 hcan hval
    · exact pack_new0 r
  · cases hp
theorem times_thaw {P : Program} {f : Nat} (h : OwnOK P f pre_timesF val_times) : OwnOK P f pre_times val_times :=
  OwnOK.or (timesA_thaw h) (timesW_thaw h) fun a o hp => by
    unfold pre_times at hp
    split at hp
    · exact .inl hp
    · exact .inr hp
    · cases hp
end Go.Pl

namespace Go.Pl
open Go.RowKit
open Enc (enc dec is)
open EncL (encL decL isL)
def heapC (s : Option LR) : List Slot := .obj (.box [.pv (.int .i64 0), .pv (.sl 0 true [])]) :: match s with
  | none => [.obj (.box [.pv (.int .i64 0), .pv (.sl 0 true [])])]
  | some r => [.obj (.box [.pv (.int .i64 r.k), .row 2 r.ts.length 0 r.w]), .obj (.row false 87 2 (r.ts.map enc))]
def okS (n : Nat) : Option LR → Prop
  | none => True
  | some r => r.w ≤ r.ts.length ∧ r.w ≤ n
theorem timesR_w (k : Int) : ∀ (x : List Coef) (r : LR) (n : Nat), r.w ≤ r.ts.length → r.w ≤ n → (x.foldl (plusRN k) r).w ≤ (x.foldl (plusRN k) r).ts.length ∧ (x.foldl (plusRN k) r).w ≤ n + x.length
  | [], r, n, h1, h2 => ⟨h1, h2⟩
  | t :: x, r, n, h1, h2 => by
    have hp := plusR_w r.view t.v (w64 (k * t.c))
    have hv : r.view.t.length ≤ r.w := by show (r.ts.take r.w).length ≤ _; simp; omega
    have := timesR_w k x (plusRN k r t) (n + 1) hp.1 (by have := hp.2; show (plusR r.view t.v (w64 (k * t.c))).w ≤ _; omega)
    rw [List.foldl_cons, List.length_cons]
    exact ⟨this.1, by omega⟩
theorem timesR_len (l x : Lin) (k : Int) : (timesR l x k).w ≤ (timesR l x k).ts.length ∧ (timesR l x k).w ≤ l.t.length + x.t.length := timesR_w k x.t _ _ (Nat.le_refl _) (Nat.le_refl _)
def restC (s : Option LR) (qs : List (Int × Fact)) : AV × List AObj × List AObj := if qs.all okQ then outR (qs.foldl rstep s) else rcombN
theorem dec_factL (f : Fact) : (dec (PV.agg (shAll (List.drop 1 (PV.cells (enc f))) 0 [Sh.int .i64, Sh.sl 2])) : Lin) = f.l := Enc.dec_enc f.l
theorem restC_bad {s : Option LR} {q : Int × Fact} {qs : List (Int × Fact)} (h : okQ q = false) : restC s (q :: qs) = rcombN := by simp [restC, h]
theorem restC_ok {s : Option LR} {q : Int × Fact} {qs : List (Int × Fact)} (h : okQ q = true) : restC s (q :: qs) = restC (rstep s q) qs := by
  unfold restC
  rw [List.all_cons, h, Bool.true_and, List.foldl_cons]
theorem rcombo_loop (fs : List Fact) (ms : List Int) (hl : ms.length = fs.length) (hf : fs.length ≤ 300) (hv : valid7 fs = true) : ∀ (m i : Nat) (s : Option LR), m + i = ms.length → okS (12 * i) s →
    At T_rcombo 0 (endO' 0 rs_rcombo (fun z => z = restC s ((ms.zip fs).drop i))) ic_rcombo 0 65 [(0, .pv (enc fs)), (1, .pv (enc ms)), (4, .ptr 0 0), (6, .ptr 1 0), (7, .pv (.int .i64 i))] (heapC s) := by
  intro m
  induction m with
  | zero =>
    intro i s hi hs
    have hd : (ms.zip fs).drop i = [] := List.drop_of_length_le (by simp; omega)
    rw [hd]
    cases s with
    | none => exact rcombo_h0a fs ms i (iteF (lt_no (by omega)) rfl)
    | some r => exact rcombo_h0b fs ms r.k r.ts.length r.w r.ts i (iteF (lt_no (by omega)) rfl)
  | succ m ih =>
    intro i s hi hs
    have hlt : i < ms.length := by omega
    have hlf : i < fs.length := by omega
    have hd : (ms.zip fs).drop i = (ms[i], fs[i]) :: (ms.zip fs).drop (i + 1) := by
      rw [List.drop_eq_getElem_cons (by simp; omega)]
      simp
    rw [hd]
    have hvf : validL fs[i].l = true := by
      simp only [valid7, List.all_eq_true] at hv
      exact hv _ (List.getElem_mem hlf)
    have hlen := valid_len hvf
    have hn : okS (12 * (i + 1)) (rstep s (ms[i], fs[i])) := by
      unfold rstep
      split
      · cases s with
        | none => trivial
        | some r => exact ⟨hs.1, by have := hs.2; omega⟩
      · have ht := timesR_len ((s.map LR.view).getD ⟨0, []⟩) fs[i].l ms[i]
        refine ⟨ht.1, ?_⟩
        have h2 : ((s.map LR.view).getD ⟨0, []⟩).t.length ≤ 12 * i := by
          cases s with
          | none => exact Nat.zero_le _
          | some r => show (r.ts.take r.w).length ≤ _; have := hs.2; simp; omega
        exact Nat.le_trans ht.2 (by show _ + fs[i].l.t.length ≤ _; omega)
    have go := ih (i + 1) (rstep s (ms[i], fs[i])) (by omega) hn
    have bad : (okQ (ms[i], fs[i]) = false) → (restC s ((ms[i], fs[i]) :: (ms.zip fs).drop (i + 1)) = rcombN) := fun h => restC_bad h
    rw [← next (show i < 9223372036854775807 by omega)] at go
    cases s with
    | none =>
      refine rcombo_h0a fs ms i (iteT (lt_ok hlt) ⟨idx_ok hlt rfl, el_ex hlt (iteD (fun h1 => ?_) fun h1 => ⟨idx_ok hlt rfl, el_ex hlt (iteD (fun h2 => ?_) fun h2 => ⟨idx_ok hlt rfl, el_ex hlt (iteD (fun h3 => ⟨idx_ok hlf rfl, el_ex hlf (iteN (fun h4 => ?_) fun h4 => ?_)⟩) fun h3 => ?_)⟩)⟩)⟩)
      · have h1 : ms[i] < -1000000000 := h1
        exact (bad (by simp [okQ, h1])).symm
      · have h2 : ms[i] > 1000000000 := h2
        exact (bad (by simp [okQ, h2])).symm
      · have h3 : ms[i] < 0 := h3
        have h4 : fs[i].eq = false := h4
        exact (bad (by simp [okQ, h3, h4])).symm
      all_goals
        have h1 : ¬ ms[i] < -1000000000 := h1
        have h2 : ¬ ms[i] > 1000000000 := h2
        have hok : okQ (ms[i], fs[i]) = true := by
          first
          | (have h4 : fs[i].eq = true := h4
             simp [okQ, h1, h2, h4])
          | (have h3 : ¬ ms[i] < 0 := h3
             simp [okQ, h1, h2, h3])
        rw [restC_ok hok]
        refine ⟨idx_ok hlt rfl, el_ex hlt (iteC (fun hm => ⟨idx_ok hlf rfl, el_ex hlf ⟨idx_ok hlt rfl, el_ex hlt ⟨?_, ?_⟩⟩⟩) fun hm => ?_)⟩
        · have hp : pre_times [.pv zeroL, .pv (enc fs[i].l), .pv (.int .i64 ms[i])] [] = true := by
            show (true && can Lin (enc fs[i].l) && true && decide ((dec (enc fs[i].l : PV) : Lin).t.length ≤ 500000)) = true
            rw [can_enc, Enc.dec_enc]
            simp; omega
          exact hp
        · have hm : ms[i] ≠ 0 := by
            intro e
            have : (ms[i] != 0) = true := hm
            simp [e] at this
          have e : rstep none (ms[i], fs[i]) = some (timesR ⟨0, []⟩ fs[i].l ms[i]) := if_neg hm
          rw [e] at go ⊢
          rw [dec_factL, show (dec (PV.agg [PV.int .i64 0, PV.sl 0 true []]) : Lin) = ⟨0, []⟩ from rfl]
          exact go
        · have hm : ms[i] = 0 := by
            have : ¬ (ms[i] != 0) = true := hm
            simpa using this
          have e : rstep none (ms[i], fs[i]) = none := if_pos hm
          rw [e] at go ⊢
          exact go
    | some r =>
      refine rcombo_h0b fs ms r.k r.ts.length r.w r.ts i (iteT (lt_ok hlt) ⟨idx_ok hlt rfl, el_ex hlt (iteD (fun h1 => ?_) fun h1 => ⟨idx_ok hlt rfl, el_ex hlt (iteD (fun h2 => ?_) fun h2 => ⟨idx_ok hlt rfl, el_ex hlt (iteD (fun h3 => ⟨idx_ok hlf rfl, el_ex hlf (iteN (fun h4 => ?_) fun h4 => ?_)⟩) fun h3 => ?_)⟩)⟩)⟩)
      · have h1 : ms[i] < -1000000000 := h1
        exact (bad (by simp [okQ, h1])).symm
      · have h2 : ms[i] > 1000000000 := h2
        exact (bad (by simp [okQ, h2])).symm
      · have h3 : ms[i] < 0 := h3
        have h4 : fs[i].eq = false := h4
        exact (bad (by simp [okQ, h3, h4])).symm
      all_goals
        have h1 : ¬ ms[i] < -1000000000 := h1
        have h2 : ¬ ms[i] > 1000000000 := h2
        have hok : okQ (ms[i], fs[i]) = true := by
          first
          | (have h4 : fs[i].eq = true := h4
             simp [okQ, h1, h2, h4])
          | (have h3 : ¬ ms[i] < 0 := h3
             simp [okQ, h1, h2, h3])
        rw [restC_ok hok]
        refine ⟨idx_ok hlt rfl, el_ex hlt (iteC (fun hm => ⟨idx_ok hlf rfl, el_ex hlf ⟨idx_ok hlt rfl, el_ex hlt ⟨?_, ?_⟩⟩⟩) fun hm => ?_)⟩
        · have hp : pre_times [.agg [.pv (.int .i64 r.k), .row 0 r.ts.length 0 r.w], .pv (enc fs[i].l), .pv (.int .i64 ms[i])] [.row false 87 2 (r.ts.map enc)] = true := by
            show (can (List Coef) (.sl 2 false (r.ts.map enc)) && can Lin (enc fs[i].l) && (r.ts.map (enc : Coef → PV)).length == r.ts.length && decide (r.w ≤ r.ts.length) && decide (r.w ≤ 500000) && decide ((dec (enc fs[i].l : PV) : Lin).t.length ≤ 500000)) = true
            have hw1 := hs.1
            have hw2 := hs.2
            rw [can_row, can_enc, Enc.dec_enc, List.length_map, decide_eq_true hw1, decide_eq_true (show r.w ≤ 500000 by omega), decide_eq_true (show fs[i].l.t.length ≤ 500000 by omega)]
            simp
          exact hp
        · have hm : ms[i] ≠ 0 := by
            intro e
            have : (ms[i] != 0) = true := hm
            simp [e] at this
          have e : rstep (some r) (ms[i], fs[i]) = some (timesR r.view fs[i].l ms[i]) := if_neg hm
          rw [e] at go ⊢
          rw [dec_factL, linW_eq]
          exact go
        · have hm : ms[i] = 0 := by
            have : ¬ (ms[i] != 0) = true := hm
            simpa using this
          have e : rstep (some r) (ms[i], fs[i]) = some r := if_pos hm
          rw [e] at go ⊢
          exact go
theorem rcombo_get (fs : List Fact) (ms : List Int) (hf : fs.length ≤ 300) (hv : valid7 fs = true) : Gets T_rcombo 0 (endO' 0 rs_rcombo (fun z => z = if okC fs ms then outR (rfold fs ms) else rcombN)) ic_rcombo [] (st0O nt_rcombo [.pv (enc fs), .pv (enc ms)] []) := by
  refine rcombo_s fs ms (iteC (fun h => ?_) fun h => ?_)
  · have hne : ¬ ms.length = fs.length := by
      intro e
      simp [e] at h
    have : okC fs ms = false := by simp [okC, hne]
    rw [this]; rfl
  · have he : ms.length = fs.length := by
      have : ((ms.length : Int)) = (fs.length : Int) := by simpa using h
      omega
    have := rcombo_loop fs ms he hf hv ms.length 0 none (by omega) trivial
    have e : restC none ((ms.zip fs).drop 0) = if okC fs ms then outR (rfold fs ms) else rcombN := by
      rw [List.drop_zero, restC, okC, decide_eq_true he, Bool.true_and]
      rfl
    rw [e] at this
    exact this
end Go.Pl

namespace Go.Pl
open Go.RowKit
open Enc (enc dec is)
open EncL (encL decL isL)
theorem gcd_inR {a b : Int} (ha : inR a = true) (hb : inR b = true) : inR ((Int.gcd a b : Nat) : Int) = true := by
  simp only [inR, Bool.and_eq_true, decide_eq_true_eq] at *
  by_cases h : a = 0
  · subst h
    rw [Int.gcd_zero_left]
    omega
  · have h1 : (Int.gcd a b) ≤ a.natAbs := Nat.le_of_dvd (by omega) (Nat.gcd_dvd_left _ _)
    omega
theorem rcut_l0 (fs : List Fact) (ms : List Int) (V : PV → Prop) (c : Int) (w : Nat) (ts : List Coef) (hw : w ≤ ts.length) (hb : w ≤ 1000000) (hin : ∀ t ∈ ts.take w, inR t.c = true) : ∀ (m i : Nat) (g : Int), m + i = w → inR g = true →
    At T_rcutr 0 (endP' rs_rcutr V) ic_rcutr 1 78 [(4, .ptr 0 0), (6, .ptr 1 0), (8, .pv (.int .i64 ((((ts.take w).map (·.c)).drop i).foldl (fun g n => (Int.gcd g n : Int)) g))), (10, .pv (.int .i64 0))] [.obj (.box [.pv (.int .i64 0), .pv (.sl 0 true [])]), .obj (.box [.pv (.int .i64 c), .row 2 ts.length 0 w]), .obj (.row false 87 2 (ts.map enc))] →
    At T_rcutr 0 (endP' rs_rcutr V) ic_rcutr 0 78 [(4, .ptr 0 0), (6, .ptr 1 0), (8, .pv (.int .i64 g)), (9, .pv (.int .i64 i))] [.obj (.box [.pv (.int .i64 0), .pv (.sl 0 true [])]), .obj (.box [.pv (.int .i64 c), .row 2 ts.length 0 w]), .obj (.row false 87 2 (ts.map enc))] := by
  intro m
  induction m with
  | zero =>
    intro i g hi hg H
    rw [List.drop_of_length_le (by simp; omega)] at H
    exact rcutr_h0 fs ms c ts.length w ts g i (iteF (by simp; omega) H)
  | succ m ih =>
    intro i g hi hg H
    have hlt : i < ts.length := by omega
    have hd : ((ts.take w).map (·.c)).drop i = ts[i].c :: ((ts.take w).map (·.c)).drop (i + 1) := by
      rw [List.drop_eq_getElem_cons (by simp; omega)]
      simp
    rw [hd, List.foldl_cons] at H
    have hc : inR ts[i].c = true := hin _ (by
      have : (ts.take w)[i]'(by simp; omega) = ts[i] := by simp
      rw [← this]; exact List.getElem_mem _)
    refine rcutr_h0 fs ms c ts.length w ts g i ?_
    simp only [getD_z enc hlt]
    refine iteT (by simp; omega) ⟨by simp; omega, by simp; omega, rfl, pre_enc (g, ts[i].c, ()) rfl (by show (inR g && inR ts[i].c) = true; rw [hg, hc]; rfl), ex_enc (g, ts[i].c, ()) rfl ?_⟩
    rw [next (by omega)]
    exact ih (i + 1) _ (by omega) (gcd_inR hg hc) H
theorem set_c (ts : List Coef) (i : Nat) (h : i < ts.length) (v : Int) : List.set (List.map enc ts) i (PV.withCells (enc ts[i]) (splice (PV.cells (enc ts[i])) (0 + 1) (PV.cells (PV.int .i64 v)))) = List.map enc (ts.set i ⟨ts[i].v, v⟩) := by
  rw [List.map_set]
  rfl
def cutV (k : Int) (g : Int) (vs : List Coef) : Lin × Int := if validL ⟨(divI k g).1, vs⟩ then (⟨(divI k g).1, vs⟩, 0) else (⟨0, []⟩, 3)
theorem rcut_l1 (fs : List Fact) (ms : List Int) (c : Int) (w : Nat) (o : List Coef) (hw : w ≤ o.length) (hb : w ≤ 1000000) (g : Int) (hg : g ≠ 0) : ∀ (m i : Nat) (ts : List Coef), m + i = w → ts.length = o.length → ts.take i = (o.take i).map (fun t => ⟨t.v, w64 (t.c.tdiv g)⟩) → ts.drop i = o.drop i →
    At T_rcutr 0 (endP' rs_rcutr (Fits (cutV c g ((o.take w).map fun t => ⟨t.v, w64 (t.c.tdiv g)⟩)))) ic_rcutr 1 78 [(4, .ptr 0 0), (6, .ptr 1 0), (8, .pv (.int .i64 g)), (10, .pv (.int .i64 i))] [.obj (.box [.pv (.int .i64 0), .pv (.sl 0 true [])]), .obj (.box [.pv (.int .i64 c), .row 2 o.length 0 w]), .obj (.row false 87 2 (ts.map enc))] := by
  intro m
  induction m with
  | zero =>
    intro i ts hi hts h1 h2
    have hi : i = w := by omega
    subst hi
    refine rcutr_h1 fs ms c o.length i ts g i (iteF (by simp) (ex_enc (c, g, ()) rfl ?_))
    have e : List.drop 0 (List.take i (List.map (enc : Coef → PV) ts)) = ((o.take i).map fun t => (⟨t.v, w64 (t.c.tdiv g)⟩ : Coef)).map enc := by rw [List.drop_zero, ← List.map_take, h1]
    rw [e]
    have hl : (List.map (enc : Coef → PV) ts).length = o.length := by simp [hts]
    rw [hl]
    have hlen : ((o.take i).map fun t => (⟨t.v, w64 (t.c.tdiv g)⟩ : Coef)).length ≤ 1000000 := by simp; omega
    generalize (o.take i).map (fun t => (⟨t.v, w64 (t.c.tdiv g)⟩ : Coef)) = vs at hlen ⊢
    refine ⟨by simp, pre_enc ((⟨(divI c g).1, vs⟩ : Lin), ()) rfl (decide_eq_true (by show vs.length ≤ _; omega)), ex_enc ((⟨(divI c g).1, vs⟩ : Lin), ()) rfl (iteN (fun hv => ?_) fun hv => ⟨by simp, ?_⟩)⟩
    · have hv : validL ⟨(divI c g).1, vs⟩ = false := hv
      have : cutV c g vs = (⟨0, []⟩, 3) := by unfold cutV; rw [hv]; rfl
      rw [this]
      exact ⟨rfl, rfl⟩
    · have hv : validL ⟨(divI c g).1, vs⟩ = true := hv
      have : cutV c g vs = (⟨(divI c g).1, vs⟩, 0) := by unfold cutV; rw [hv]; rfl
      rw [this]
      exact fits_of (x := ((⟨(divI c g).1, vs⟩, 0) : Lin × Int)) rfl
  | succ m ih =>
    intro i ts hi hts h1 h2
    have hlo : i < o.length := by omega
    have hlt : i < ts.length := by omega
    have ei : ts[i] = o[i] := by
      have : (ts.drop i)[0]? = (o.drop i)[0]? := by rw [h2]
      simpa [hlt, hlo] using this
    refine rcutr_h1 fs ms c o.length w ts g i ?_
    simp only [getD_z enc hlt]
    refine iteT (by simp; omega) ⟨by simp [hts]; omega, by simp [hts]; omega, rfl, by simpa using hg, by simp [hts]; omega, ?_, ?_⟩
    · simp only [List.length_map, hts, beq_self_eq_true, Bool.true_and, Nat.zero_add, Int.toNat_natCast, decide_eq_true hlo]
      rfl
    · rw [Nat.zero_add, Int.toNat_natCast]
      have es := set_c ts i hlt (w64 (ts[i].c.tdiv g))
      rw [Nat.zero_add] at es
      have H := ih (i + 1) (ts.set i ⟨ts[i].v, w64 (ts[i].c.tdiv g)⟩) (by omega) (by simp [hts]) ?_ ?_
      · rw [← es] at H
        rw [next (by omega)]
        exact H
      · rw [List.take_add_one, List.getElem?_set_self hlt, List.take_set_of_le (Nat.le_refl i), h1, List.take_add_one, List.getElem?_eq_getElem hlo, List.map_append, ei]
        rfl
      · rw [List.drop_set_of_lt (by omega)]
        have := congrArg (List.drop 1) h2
        simpa [List.drop_drop, Nat.add_comm] using this
theorem terms_in {m : List (Str × Int)} (hd : (keysM m).Nodup) (h : (valsM (nzM m)).all inR = true) : ∀ t ∈ termsM m, inR t.c = true := by
  intro t ht
  rw [terms_names] at ht
  obtain ⟨s, hs, rfl⟩ := List.mem_map.1 ht
  have hs := ((List.mergeSort_perm _ _).mem_iff).1 hs
  obtain ⟨p, hp, rfl⟩ := List.mem_map.1 hs
  have e := atM_mem hd p (List.mem_filter.1 hp).1
  show inR (atM m p.1.s) = true
  rw [e]
  simp only [List.all_eq_true] at h
  exact h _ (List.mem_map.2 ⟨p, hp, rfl⟩)
theorem fold_okS : ∀ (qs : List (Int × Fact)) (s : Option LR) (n : Nat), okS n s → (∀ q ∈ qs, q.2.l.t.length ≤ 12) → okS (n + 12 * qs.length) (qs.foldl rstep s)
  | [], s, n, h, _ => h
  | q :: qs, s, n, h, hq => by
    have h1 : okS (n + 12) (rstep s q) := by
      unfold rstep
      split
      · cases s with
        | none => trivial
        | some r => exact ⟨h.1, by have := h.2; omega⟩
      · have ht := timesR_len ((s.map LR.view).getD ⟨0, []⟩) q.2.l q.1
        have hl := hq q (by simp)
        have h2 : ((s.map LR.view).getD ⟨0, []⟩).t.length ≤ n := by
          cases s with
          | none => exact Nat.zero_le _
          | some r => show (r.ts.take r.w).length ≤ _; have := h.2; simp; omega
        exact ⟨ht.1, Nat.le_trans ht.2 (by omega)⟩
    have := fold_okS qs (rstep s q) (n + 12) h1 fun r hr => hq r (by simp [hr])
    rw [List.foldl_cons, List.length_cons]
    rw [show n + 12 * (qs.length + 1) = n + 12 + 12 * qs.length by omega]
    exact this
theorem rcutn_run (fs : List Fact) (ms : List Int) (hf : factsSm fs = true) (hn : fs.length ≤ 300) (hc : okC fs ms = false) : Gets T_rcutn 0 (endP' rs_rcutn (Fits (cutL fs ms))) ic_rcutn [] (st0 nt_rcutn (encL ((fs, ms, ()) : List Fact × List Int × Unit))) := by
  refine rcutn_s fs ms ⟨pre_enc (fs, ()) rfl hf, ex_enc (fs, ()) rfl (iteN (fun hv => ?_) fun hv => ⟨?_, ?_⟩)⟩
  · have hv : valid7 fs = false := hv
    have : cutL fs ms = (⟨0, []⟩, 1) := by unfold cutL; rw [hv]; rfl
    rw [this]
    exact ⟨rfl, rfl⟩
  · have hv : valid7 fs = true := hv
    show (rcPre (enc fs) (enc ms) && !okC (dec (enc fs : PV)) (dec (enc ms : PV))) = true
    rw [rcPre_enc hn hv, Enc.dec_enc, Enc.dec_enc, hc]; rfl
  · have hv : valid7 fs = true := hv
    have : cutL fs ms = (⟨0, []⟩, 18) := by unfold cutL; rw [hv, hc]; rfl
    rw [this]
    exact ⟨rfl, rfl⟩
theorem rcutz_run (fs : List Fact) (ms : List Int) (hf : factsSm fs = true) (hn : fs.length ≤ 300) (hc : okC fs ms = true) (hz : (rfold fs ms).isNone = true) : Gets T_rcutz 0 (endP' rs_rcutz (Fits (cutL fs ms))) ic_rcutz [] (st0 nt_rcutz (encL ((fs, ms, ()) : List Fact × List Int × Unit))) := by
  refine rcutz_s fs ms ⟨pre_enc (fs, ()) rfl hf, ex_enc (fs, ()) rfl (iteN (fun hv => ?_) fun hv => ⟨?_, ?_⟩)⟩
  · have hv : valid7 fs = false := hv
    have : cutL fs ms = (⟨0, []⟩, 1) := by unfold cutL; rw [hv]; rfl
    rw [this]
    exact ⟨rfl, rfl⟩
  · have hv : valid7 fs = true := hv
    show (rcPre (enc fs) (enc ms) && okC (dec (enc fs : PV)) (dec (enc ms : PV)) && (rfold (dec (enc fs : PV)) (dec (enc ms : PV))).isNone) = true
    rw [rcPre_enc hn hv, Enc.dec_enc, Enc.dec_enc, hc, hz]; rfl
  · have hv : valid7 fs = true := hv
    have hr : (rcomb fs ms).t = [] := by unfold rcomb; rw [Option.isNone_iff_eq_none.1 hz]; rfl
    have : cutL fs ms = (⟨0, []⟩, 18) := by rw [← rcut_eq]; unfold rcutL; rw [hv, hc, if_pos rfl, if_pos rfl, if_pos hr]
    rw [this]
    exact ⟨rfl, rfl⟩
theorem rcutr_run (fs : List Fact) (ms : List Int) (hf : factsSm fs = true) (hn : fs.length ≤ 300) (hc : okC fs ms = true) (hz : (rfold fs ms).isSome = true) : Gets T_rcutr 0 (endP' rs_rcutr (Fits (cutL fs ms))) ic_rcutr [] (st0 nt_rcutr (encL ((fs, ms, ()) : List Fact × List Int × Unit))) := by
  refine rcutr_s fs ms ⟨pre_enc (fs, ()) rfl hf, ex_enc (fs, ()) rfl (iteN (fun hv => ?_) fun hv => ⟨?_, ?_⟩)⟩
  · have hv : valid7 fs = false := hv
    have : cutL fs ms = (⟨0, []⟩, 1) := by unfold cutL; rw [hv]; rfl
    rw [this]
    exact ⟨rfl, rfl⟩
  · have hv : valid7 fs = true := hv
    show (rcPre (enc fs) (enc ms) && okC (dec (enc fs : PV)) (dec (enc ms : PV)) && (rfold (dec (enc fs : PV)) (dec (enc ms : PV))).isSome) = true
    rw [rcPre_enc hn hv, Enc.dec_enc, Enc.dec_enc, hc, hz]; rfl
  · have hv : valid7 fs = true := hv
    obtain ⟨r, hr⟩ := Option.isSome_iff_exists.1 hz
    have et : theR (dec (enc fs : PV)) (dec (enc ms : PV)) = r := by unfold theR; rw [Enc.dec_enc, Enc.dec_enc, hr]; rfl
    rw [et]
    have ev : rcomb fs ms = r.view := by unfold rcomb viewO; rw [hr]; rfl
    obtain ⟨b1, b2, _⟩ := cut_hb hn hc hv
    obtain ⟨e1, e2⟩ := rcomb_eq (ms := ms) hv
    have hd : (keysM (cfold fs ms).2).Nodup := fold_nodup _ _ _ (by simp [keysM])
    have hin := terms_in hd b2
    rw [← e2] at hin
    have hnz : ∀ t ∈ (rcomb fs ms).t, t.c ≠ 0 := by rw [e2]; exact (terms_rep hd).2
    have hok : okS (0 + 12 * (ms.zip fs).length) (rfold fs ms) := fold_okS (ms.zip fs) none 0 trivial fun q hq => by
      have hm := (List.of_mem_zip (a := q.1) (b := q.2) hq).2
      simp only [valid7, List.all_eq_true] at hv
      exact valid_len (hv _ hm)
    rw [hr] at hok
    have hw : r.w ≤ r.ts.length := hok.1
    have hb : r.w ≤ 1000000 := by have := hok.2; simp at this; omega
    have eC : cutL fs ms = if r.view.t = [] then (⟨0, []⟩, 18) else cutV r.k (gcdsI (r.view.t.map (·.c))) (r.view.t.map fun t => ⟨t.v, w64 (t.c.tdiv (gcdsI (r.view.t.map (·.c))))⟩) := by
      rw [← rcut_eq]; unfold rcutL; rw [hv, hc, if_pos rfl, if_pos rfl, ev]; rfl
    rw [ev] at hin hnz
    have hvl : r.view.t.length = r.w := by show (r.ts.take r.w).length = _; simp; omega
    rw [eC]
    refine iteC (fun h0 => ?_) fun h0 => ?_
    · have h0 : r.view.t = [] := by
        have h : ((r.w - 0 : Nat) : Int) = 0 := by simpa using h0
        exact List.length_eq_zero_iff.1 (by omega)
      rw [if_pos h0]
      exact ⟨rfl, rfl⟩
    · have h0 : r.view.t ≠ [] := by
        intro e
        have e : r.w = 0 := by rw [← hvl, e]; rfl
        simp [e] at h0
      rw [if_neg h0]
      have hg : gcdsI (r.view.t.map (·.c)) ≠ 0 := gcds_ne (by
        cases h : r.view.t with
        | nil => exact absurd h h0
        | cons t l => exact ⟨t.c, by simp, hnz t (by rw [h]; simp)⟩)
      have h1 := rcut_l1 fs ms r.k r.w r.ts hw hb (gcdsI (r.view.t.map (·.c))) hg r.w 0 r.ts (by omega) rfl (by simp) rfl
      exact rcut_l0 fs ms _ r.k r.w r.ts hw hb hin r.w 0 0 (by omega) rfl h1
end Go.Pl

namespace Go.Pl
open Go.RowKit
open Enc (enc dec is)
open EncL (encL decL isL)
end Go.Pl

namespace Go.Pl
open Go.RowKit
open Enc (enc dec is)
open EncL (encL decL isL)
theorem one_of {α : Type} : ∀ {ks : List α}, ks.length = 1 → ∃ a, ks = [a]
  | [a], _ => ⟨a, rfl⟩
end Go.Pl

namespace Go.Pl
open Go.RowKit
open Enc (enc dec is)
open EncL (encL decL isL)
set_option maxRecDepth 100000
def ic_lcut : IC := (.seq (.reg [⟨(some 6), (.mv (.c (.bool false))), 0, none⟩] none) (.seq (.seq (.reg [⟨(some 11), (.call (.c (.fn 12)) []), 0, none⟩, ⟨(some 12), (.un .not (.t 11)), 2, none⟩] none) (.cond (.t 12) (.seq (.reg [⟨(some 6), (.mv (.c (.bool false))), 0, none⟩] none) .ret) .skip)) (.seq (.seq (.reg [⟨(some 13), (.mv (.t 0)), 0, none⟩, ⟨(some 14), (.call (.c (.fn 13)) [(.t 13), (.c (.int .i64 8))]), 0, none⟩, ⟨(some 15), (.un .not (.t 14)), 2, none⟩, ⟨(some 16), (.mv (.t 15)), 2, none⟩, ⟨(some 17), (.mv (.t 1)), 2, (some (16, false))⟩, ⟨(some 18), (.len 1 (.t 17)), 2, (some (16, false))⟩, ⟨(some 19), (.bin .num .gtr (.t 18) (.c (.int .i64 10))), 2, (some (16, false))⟩, ⟨(some 20), (.pick (.t 16) (.c (.bool true)) (.t 19)), 2, none⟩, ⟨(some 21), (.mv (.t 20)), 2, none⟩, ⟨(some 22), (.mv (.t 2)), 2, (some (21, false))⟩, ⟨(some 23), (.len 1 (.t 22)), 2, (some (21, false))⟩, ⟨(some 24), (.bin .num .gtr (.t 23) (.c (.int .i64 10))), 2, (some (21, false))⟩, ⟨(some 25), (.pick (.t 21) (.c (.bool true)) (.t 24)), 2, none⟩] none) (.cond (.t 25) (.seq (.reg [⟨(some 6), (.mv (.c (.bool true))), 0, none⟩] none) .ret) .skip)) (.seq (.reg [⟨(some 27), (.mv (.t 0)), 0, none⟩, ⟨(some 28), (.mv (.t 1)), 0, none⟩, ⟨(some 29), (.call (.c (.fn 26)) [(.t 27), (.t 28)]), 0, none⟩, ⟨(some 26), (.mv (.t 29)), 2, none⟩, ⟨(some 30), (.extract (.t 26) 0), 2, none⟩, ⟨(some 31), (.extract (.t 26) 1), 2, none⟩, ⟨(some 7), (.alloc (.agg [(.int .i64 0), (.sl 0 true [])])), 2, none⟩, ⟨none, (.store 2 (.t 7) (.t 30)), 3, none⟩, ⟨(some 8), (.mv (.t 31)), 3, none⟩] none) (.seq (.reg [⟨(some 33), (.mv (.t 0)), 0, none⟩, ⟨(some 34), (.mv (.t 1)), 0, none⟩, ⟨(some 35), (.call (.c (.fn 27)) [(.t 33), (.t 34)]), 0, none⟩, ⟨(some 32), (.mv (.t 35)), 2, none⟩, ⟨(some 36), (.extract (.t 32) 0), 2, none⟩, ⟨(some 37), (.extract (.t 32) 1), 2, none⟩, ⟨(some 9), (.alloc (.agg [(.int .i64 0), (.sl 0 true [])])), 2, none⟩, ⟨none, (.store 2 (.t 9) (.t 36)), 3, none⟩, ⟨(some 10), (.mv (.t 37)), 3, none⟩] none) (.seq (.reg [⟨(some 38), (.load true [(.int .i64), (.sl 2)] (.t 7)), 0, none⟩, ⟨(some 39), (.load true [(.int .i64), (.sl 2)] (.t 9)), 0, none⟩, ⟨(some 40), (.call (.c (.fn 23)) [(.t 38), (.t 39)]), 0, none⟩, ⟨(some 41), (.mv (.t 40)), 2, none⟩, ⟨(some 42), (.mv (.t 8)), 2, (some (41, true))⟩, ⟨(some 43), (.mv (.t 10)), 2, (some (41, true))⟩, ⟨(some 44), (.bin .num .eql (.t 42) (.t 43)), 2, (some (41, true))⟩, ⟨(some 45), (.pick (.t 41) (.t 44) (.c (.bool false))), 2, none⟩, ⟨(some 46), (.mv (.t 45)), 2, none⟩, ⟨(some 47), (.mv (.t 0)), 2, (some (46, true))⟩, ⟨(some 48), (.call (.c (.fn 28)) [(.t 47)]), 2, (some (46, true))⟩, ⟨(some 49), (.mv (.t 0)), 4, (some (46, true))⟩, ⟨(some 50), (.call (.c (.fn 29)) [(.t 49)]), 4, (some (46, true))⟩, ⟨(some 51), (.bin .bool .eql (.t 48) (.t 50)), 6, (some (46, true))⟩, ⟨(some 52), (.pick (.t 46) (.t 51) (.c (.bool false))), 6, none⟩, ⟨(some 53), (.mv (.t 52)), 6, none⟩, ⟨(some 54), (.mv (.t 0)), 6, (some (53, true))⟩, ⟨(some 55), (.mv (.t 2)), 6, (some (53, true))⟩, ⟨(some 56), (.call (.c (.fn 30)) [(.t 54), (.t 55)]), 6, (some (53, true))⟩, ⟨(some 57), (.mv (.t 0)), 8, (some (53, true))⟩, ⟨(some 58), (.mv (.t 2)), 8, (some (53, true))⟩, ⟨(some 59), (.call (.c (.fn 31)) [(.t 57), (.t 58)]), 8, (some (53, true))⟩, ⟨(some 60), (.bin .bool .eql (.t 56) (.t 59)), 10, (some (53, true))⟩, ⟨(some 61), (.pick (.t 53) (.t 60) (.c (.bool false))), 10, none⟩, ⟨(some 6), (.mv (.t 61)), 10, none⟩] none) .ret))))))
def rs_lcut : List IRes := [(.tmp 6)]
abbrev nt_lcut : Nat := 62
def T_lcut : Tab := tab [(12, .pure (preT (fun _ : Unit => true)) (valT (fun _ : Unit => true))), (13, .pure (preT (fun x : List Fact × Int × Unit => factsOk x.1)) (valT (fun x : List Fact × Int × Unit => few7 x.1 x.2.1))), (26, .pure (preT (fun x : List Fact × List Int × Unit => factsSm x.1 && decide (x.1.length ≤ 300))) (valT (fun x : List Fact × List Int × Unit => cutL x.1 x.2.1))), (27, .pure (preT (fun x : List Fact × List Int × Unit => factsSm x.1 && decide (x.1.length ≤ 300))) (valT (fun x : List Fact × List Int × Unit => cutL x.1 x.2.1))), (23, .pure (preT (fun x : Lin × Lin × Unit => linOk x.1)) (valT (fun x : Lin × Lin × Unit => cmpL x.1 x.2.1 == 0))), (28, .pure (preT (fun x : List Fact × Unit => factsSm x.1)) (valT (fun x : List Fact × Unit => valid7 x.1))), (29, .pure (preT (fun x : List Fact × Unit => factsSm x.1)) (valT (fun x : List Fact × Unit => valid7 x.1))), (30, .pure (preT (fun x : List Fact × List Coef × Unit => factsSm x.1 && decide (x.2.1.length ≤ 9223372036854775807))) (valT (fun x : List Fact × List Coef × Unit => x.1.all fun f => holdsB f x.2.1))), (31, .pure (preT (fun x : List Fact × List Coef × Unit => factsSm x.1 && decide (x.2.1.length ≤ 9223372036854775807))) (valT (fun x : List Fact × List Coef × Unit => x.1.all fun f => holdsB f x.2.1)))]
theorem lcut_s {G : PV → Prop} (fs : List Fact) (ms : List Int) (v : List Coef) (h : ∃ y0 : Bool, AV.pv (valT (fun (x : Unit) => true) []) = AV.pv (enc y0) ∧ (if (!y0) = true then G ((.bool false)) else ((Go.Pl.preT (fun (x : List Fact × Int × Unit) => factsOk x.1) [(.sl 3 false (List.map enc fs)), (.int .i64 8)]) = true ∧ (∃ y1 : Bool, AV.pv (valT (fun (x : List Fact × Int × Unit) => few7 x.1 x.2.1) [(.sl 3 false (List.map enc fs)), (.int .i64 8)]) = AV.pv (enc y1) ∧ (if (!y1) = true then G ((.bool true)) else (if (decide ((↑(List.length (List.map enc ms)) : Int) > 10)) = true then G ((.bool true)) else (if (decide ((↑(List.length (List.map enc v)) : Int) > 10)) = true then G ((.bool true)) else ((Go.Pl.preT (fun (x : List Fact × List Int × Unit) => factsSm x.1 && decide (List.length x.1 ≤ 300)) [(.sl 3 false (List.map enc fs)), (.sl 1 false (List.map enc ms))]) = true ∧ (∃ y2 : Lin × Int, AV.pv (valT (fun (x : List Fact × List Int × Unit) => cutL x.1 x.2.1) [(.sl 3 false (List.map enc fs)), (.sl 1 false (List.map enc ms))]) = AV.pv (enc y2) ∧ ((Go.Pl.preT (fun (x : List Fact × List Int × Unit) => factsSm x.1 && decide (List.length x.1 ≤ 300)) [(.sl 3 false (List.map enc fs)), (.sl 1 false (List.map enc ms))]) = true ∧ (∃ y3 : Lin × Int, AV.pv (valT (fun (x : List Fact × List Int × Unit) => cutL x.1 x.2.1) [(.sl 3 false (List.map enc fs)), (.sl 1 false (List.map enc ms))]) = AV.pv (enc y3) ∧ ((Go.Pl.preT (fun (x : Lin × Lin × Unit) => linOk x.1) [(.agg [(.int .i64 y2.1.k), (.sl 2 false (List.map enc y2.1.t))]), (.agg [(.int .i64 y3.1.k), (.sl 2 false (List.map enc y3.1.t))])]) = true ∧ (∃ y4 : Bool, AV.pv (valT (fun (x : Lin × Lin × Unit) => cmpL x.1 x.2.1 == 0) [(.agg [(.int .i64 y2.1.k), (.sl 2 false (List.map enc y2.1.t))]), (.agg [(.int .i64 y3.1.k), (.sl 2 false (List.map enc y3.1.t))])]) = AV.pv (enc y4) ∧ (if (y4) = true then if (y2.2 == y3.2) = true then (Go.Pl.preT (fun (x : List Fact × Unit) => factsSm x.1) [(.sl 3 false (List.map enc fs))]) = true ∧ (∃ y5 : Bool, AV.pv (valT (fun (x : List Fact × Unit) => valid7 x.1) [(.sl 3 false (List.map enc fs))]) = AV.pv (enc y5) ∧ ((Go.Pl.preT (fun (x : List Fact × Unit) => factsSm x.1) [(.sl 3 false (List.map enc fs))]) = true ∧ (∃ y6 : Bool, AV.pv (valT (fun (x : List Fact × Unit) => valid7 x.1) [(.sl 3 false (List.map enc fs))]) = AV.pv (enc y6) ∧ (if (y5 == y6) = true then (Go.Pl.preT (fun (x : List Fact × List Coef × Unit) => factsSm x.1 && decide (List.length x.2.1 ≤ 9223372036854775807)) [(.sl 3 false (List.map enc fs)), (.sl 2 false (List.map enc v))]) = true ∧ (∃ y7 : Bool, AV.pv (valT (fun (x : List Fact × List Coef × Unit) => List.all x.1 fun (f : Fact) => holdsB f x.2.1) [(.sl 3 false (List.map enc fs)), (.sl 2 false (List.map enc v))]) = AV.pv (enc y7) ∧ ((Go.Pl.preT (fun (x : List Fact × List Coef × Unit) => factsSm x.1 && decide (List.length x.2.1 ≤ 9223372036854775807)) [(.sl 3 false (List.map enc fs)), (.sl 2 false (List.map enc v))]) = true ∧ (∃ y8 : Bool, AV.pv (valT (fun (x : List Fact × List Coef × Unit) => List.all x.1 fun (f : Fact) => holdsB f x.2.1) [(.sl 3 false (List.map enc fs)), (.sl 2 false (List.map enc v))]) = AV.pv (enc y8) ∧ (G ((.bool (y7 == y8))))))) else (G ((.bool false))))))) else (G ((.bool false))) else (G ((.bool false))))))))))))))))) : Gets T_lcut 0 (endP' rs_lcut G) ic_lcut [] (st0 62 [enc fs, enc ms, enc v]) := Gets.tp (.lit (.abs (Bool) (fun YY => AV.pv (enc YY)) (.ask (.nil) (.req (.abs (Bool) (fun YY => AV.pv (enc YY)) (.ask (.lit (.lit (.lit (.lit (.lit (.lit (.lit (.lit (.nil))))))))) (.lit (.lit (.lit (.lit (.ask (.lit (.lit (.lit (.lit (.nil))))) (.lit (.lit (.lit (.lit (.ask (.nil) (.req (.abs (Lin × Int) (fun YY => AV.pv (enc YY)) (.req (.abs (Lin × Int) (fun YY => AV.pv (enc YY)) (.req (.abs (Bool) (fun YY => AV.pv (enc YY)) (.ask (.lit (.lit (.lit (.lit (.ask (.lit (.req (.abs (Bool) (fun YY => AV.pv (enc YY)) (.lit (.lit (.req (.abs (Bool) (fun YY => AV.pv (enc YY)) (.lit (.lit (.lit (.ask (.lit (.lit (.req (.abs (Bool) (fun YY => AV.pv (enc YY)) (.lit (.lit (.lit (.req (.abs (Bool) (fun YY => AV.pv (enc YY)) (.lit (.lit (.lit (.nil))))))))))))) (.lit (.lit (.lit (.lit (.lit (.lit (.lit (.nil))))))))))))))))))) (.lit (.lit (.lit (.lit (.lit (.lit (.lit (.lit (.lit (.lit (.lit (.lit (.lit (.nil))))))))))))))))))) (.lit (.lit (.lit (.lit (.lit (.lit (.lit (.lit (.lit (.lit (.lit (.lit (.lit (.lit (.lit (.lit (.lit (.nil))))))))))))))))))))))))))))))))))))))))) h (by kernel_rfl)
end Go.Pl

namespace Go.Pl
open Go.RowKit
open Enc (enc dec is)
open EncL (encL decL isL)
theorem cmpT_self : ∀ l : List Coef, cmpT l l = 0
  | [] => rfl
  | x :: l => by
    have h1 : ¬ x.v.s < x.v.s := List.lt_irrefl _
    have h2 : ¬ x.c < x.c := by omega
    rw [cmpT, if_neg (by rintro (h | ⟨_, h⟩); exact h1 h; exact h2 h), if_pos rfl, cmpT_self l]
theorem cmp_self (l : Lin) : (cmpL l l == 0) = true := by
  have : cmpL l l = 0 := by
    simp [cmpL, cmpT_self, cmpK]
  rw [this]; rfl
theorem lcut_run : ∀ a : List Fact × List Int × List Coef × Unit, (factsOk a.1 && decide (a.2.2.1.length ≤ 9223372036854775807)) = true → Gets T_lcut 0 (endP' rs_lcut (Fits true)) ic_lcut [] (st0 nt_lcut (encL a)) := by
  rintro ⟨fs, ms, v, ⟨⟩⟩ h
  simp only [Bool.and_eq_true, decide_eq_true_eq] at h
  obtain ⟨h1, h2⟩ := h
  refine lcut_s fs ms v ?_
  refine ex_enc () rfl (iteN (fun h => by cases h) fun _ => ?_)
  refine ⟨pre_enc (fs, (8 : Int), ()) rfl h1, ex_enc (fs, (8 : Int), ()) rfl (iteN (fun _ => fits_of rfl) fun hw => iteC (fun _ => fits_of rfl) fun _ => iteC (fun _ => fits_of rfl) fun _ => ?_)⟩
  obtain ⟨hfs, hn⟩ := facts_few hw h1
  have hn : fs.length ≤ 8 := hn
  have hp : (factsSm fs && decide (fs.length ≤ 300)) = true := by rw [hfs]; exact decide_eq_true (by omega)
  have hq : (factsSm fs && decide (v.length ≤ 9223372036854775807)) = true := by rw [hfs]; exact decide_eq_true h2
  refine ⟨pre_enc (fs, ms, ()) rfl hp, ex_enc (fs, ms, ()) rfl ⟨pre_enc (fs, ms, ()) rfl hp, ex_enc (fs, ms, ()) rfl ⟨pre_enc ((cutL fs ms).1, (cutL fs ms).1, ()) rfl (cut_linOk fs ms), ex_enc ((cutL fs ms).1, (cutL fs ms).1, ()) rfl (iteT (cmp_self _) (iteE (fun _ => ?_) fun h => absurd rfl h))⟩⟩⟩
  refine ⟨pre_enc (fs, ()) rfl hfs, ex_enc (fs, ()) rfl ⟨pre_enc (fs, ()) rfl hfs, ex_enc (fs, ()) rfl (iteE (fun _ => ?_) fun h => absurd rfl h)⟩⟩
  exact ⟨pre_enc (fs, v, ()) rfl hq, ex_enc (fs, v, ()) rfl ⟨pre_enc (fs, v, ()) rfl hq, ex_enc (fs, v, ()) rfl (fitB (beq_self_eq_true _))⟩⟩
end Go.Pl

namespace Go.Pl
open Go.RowKit
open Enc (enc dec is)
open EncL (encL decL isL)
theorem rcPre_of {a b : PV} (h : rcPre a b = true) : ∃ (fs : List Fact) (ms : List Int), a = enc fs ∧ b = enc ms ∧ fs.length ≤ 300 ∧ valid7 fs = true := by
  simp only [rcPre, Bool.and_eq_true, decide_eq_true_eq] at h
  obtain ⟨⟨⟨ha, hb⟩, h1⟩, h2⟩ := h
  obtain ⟨fs, rfl⟩ := can_eq ha
  obtain ⟨ms, rfl⟩ := can_eq hb
  rw [Enc.dec_enc] at h1 h2
  exact ⟨fs, ms, rfl, rfl, h1, h2⟩
theorem val_rc_enc (fs : List Fact) (ms : List Int) : val_rc [.pv (enc fs), .pv (enc ms)] [] = if okC fs ms then outR (rfold fs ms) else rcombN := by
  show (if okC (dec (enc fs : PV)) (dec (enc ms : PV)) then outR (rfold (dec (enc fs : PV)) (dec (enc ms : PV))) else rcombN) = _
  rw [Enc.dec_enc, Enc.dec_enc]
theorem rcombo_run : ∀ args os, pre_rc args os = true → Gets T_rcombo os.length (endO' os.length rs_rcombo fun r => r = val_rc args os) ic_rcombo [] (st0O nt_rcombo args os) := by
  intro args os h
  unfold pre_rc at h
  split at h
  · obtain ⟨fs, ms, rfl, rfl, h1, h2⟩ := rcPre_of h
    rw [val_rc_enc]
    exact rcombo_get fs ms h1 h2
  · cases h
theorem rc_N {P : Program} {f : Nat} (h : OwnOK P f pre_rc val_rc) : OwnOK P f pre_rcN val_rcN := OwnOK.congr h
  (fun a o hp => by
    unfold pre_rcN at hp
    split at hp
    · simp only [Bool.and_eq_true] at hp
      exact hp.1
    · cases hp)
  fun a o hp => by
    unfold pre_rcN at hp
    split at hp
    · simp only [Bool.and_eq_true, Bool.not_eq_true'] at hp
      show (if _ then _ else _) = _
      rw [hp.2]; rfl
    · cases hp
theorem rc_Z {P : Program} {f : Nat} (h : OwnOK P f pre_rc val_rc) : OwnOK P f pre_rcZ val_rcZ := OwnOK.congr h
  (fun a o hp => by
    unfold pre_rcZ at hp
    split at hp
    · simp only [Bool.and_eq_true] at hp
      exact hp.1.1
    · cases hp)
  fun a o hp => by
    unfold pre_rcZ at hp
    split at hp
    · simp only [Bool.and_eq_true] at hp
      show (if _ then _ else _) = _
      rw [hp.1.2, if_pos rfl, Option.isNone_iff_eq_none.1 hp.2]; rfl
    · cases hp
theorem rc_R {P : Program} {f : Nat} (h : OwnOK P f pre_rc val_rc) : OwnOK P f pre_rcR val_rcR := OwnOK.congr h
  (fun a o hp => by
    unfold pre_rcR at hp
    split at hp
    · simp only [Bool.and_eq_true] at hp
      exact hp.1.1
    · cases hp)
  fun a o hp => by
    unfold pre_rcR at hp
    split at hp
    · rename_i a b
      simp only [Bool.and_eq_true] at hp
      obtain ⟨r, hr⟩ := Option.isSome_iff_exists.1 hp.2
      show (if okC (dec a) (dec b) then outR (rfold (dec a) (dec b)) else rcombN) = (.tup [(theR (dec a) (dec b)).av 0, .pv (.bool true)], [], [(theR (dec a) (dec b)).ob])
      rw [hp.1.2, if_pos rfl]
      unfold theR
      rw [hr]; rfl
    · cases hp
theorem sub_zero (b : Bool) : Sub (.tup [zeroL, .bool b]) (enc (((⟨0, []⟩ : Lin), b) : Lin × Bool)) := Sub.pair (Sub.agg_cons (.refl _) (Sub.agg_cons (.sl0 _ _ _) Sub.agg_nil)) (.refl _)
end Go.Pl

