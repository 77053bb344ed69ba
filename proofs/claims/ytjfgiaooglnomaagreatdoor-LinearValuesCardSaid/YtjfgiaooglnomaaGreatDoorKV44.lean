/-
  Texts of mine that belong together (packed by pack.py), for every input: GL4, GLz, GLy, QLy, QLz, QL8, GL9, QL9, GL0, QL0, QLi4, QLs4, TyB.
-/
import Derived.Test.YtjfgiaooglnomaaGreatDoorKV43
import Derived.KernelRfl
import Derived.Lib.ItoaLen
set_option linter.unusedVariables false
set_option linter.unusedSimpArgs false
namespace Go.Pl
open Go.RowKit
open Enc (enc dec is)
open EncL (encL decL isL)
set_option maxRecDepth 100000
def ic_parse : IC := (.seq (.reg [⟨(some 2), (.alloc (.agg [(.int .i64 0), (.sl 0 true [])])), 0, none⟩, ⟨(some 3), (.mv (.c (.int .i64 0))), 1, none⟩] none) (.seq (.reg [⟨(some 9), (.mv (.t 0)), 0, none⟩, ⟨(some 10), .mkmap, 0, none⟩, ⟨(some 11), (.build [(.int .i64 0), .nilmap] [(1, (1, (.t 10)))]), 1, none⟩, ⟨(some 12), (.build [(.str []), (.int .i64 0), .nilmap] [(0, (1, (.t 9))), (1, (2, (.t 11)))]), 1, none⟩, ⟨(some 13), (.box 3 (.t 12)), 1, none⟩, ⟨(some 4), (.mv (.t 13)), 2, none⟩] none) (.seq (.reg [⟨(some 14), (.mv (.t 4)), 0, none⟩, ⟨(some 15), (.mkfn 79 [(.t 14)] []), 0, none⟩, ⟨(some 5), (.mv (.t 15)), 0, none⟩] none) (.seq (.reg [⟨(some 16), (.mv (.t 4)), 0, none⟩, ⟨(some 17), (.call (.c (.fn 80)) [(.t 16)]), 0, none⟩] none) (.seq (.reg [⟨(some 19), (.mv (.t 4)), 0, none⟩, ⟨(some 20), (.call (.c (.fn 81)) [(.t 19)]), 0, none⟩, ⟨(some 18), (.mv (.t 20)), 2, none⟩, ⟨(some 21), (.extract (.t 18) 0), 2, none⟩, ⟨(some 22), (.extract (.t 18) 1), 2, none⟩, ⟨(some 6), (.mv (.t 21)), 2, none⟩, ⟨(some 7), (.mv (.t 22)), 2, none⟩] none) (.block 0 (.loop [4, 5, 6, 2] (.block 1 (.seq (.reg [⟨(some 23), (.mv (.t 4)), 0, none⟩, ⟨(some 24), (.call (.c (.fn 80)) [(.t 23)]), 0, none⟩] none) (.seq (.seq (.reg [⟨(some 25), (.mv (.t 5)), 0, none⟩, ⟨(some 26), (.mv (.t 6)), 0, none⟩, ⟨(some 27), (.call (.t 25) [(.t 26)]), 0, none⟩, ⟨(some 28), (.un .not (.t 27)), 2, none⟩] none) (.cond (.t 28) (.seq (.reg [⟨(some 29), (.build [(.int .i64 0), (.sl 0 true [])] []), 0, none⟩, ⟨none, (.store 2 (.t 2) (.t 29)), 0, none⟩, ⟨(some 3), (.mv (.c (.int .i64 6))), 0, none⟩] none) .ret) .skip)) (.seq (.reg [⟨(some 30), (.mv (.t 4)), 0, none⟩, ⟨(some 31), (.call (.c (.fn 80)) [(.t 30)]), 0, none⟩] none) (.seq (.seq (.reg [⟨(some 32), (.mv (.t 4)), 0, none⟩, ⟨(some 33), (.nilchk (.t 32)), 0, none⟩, ⟨(some 34), (.faddr 0 (.t 33)), 0, none⟩, ⟨(some 35), (.load false [.str] (.t 34)), 0, none⟩, ⟨(some 36), (.bin .num .eql (.t 35) (.c (.str []))), 0, none⟩] none) (.cond (.t 36) (.seq (.reg [⟨(some 37), (.mv (.t 4)), 0, none⟩, ⟨(some 38), (.nilchk (.t 37)), 0, none⟩, ⟨(some 39), (.faddr 1 (.t 38)), 0, none⟩, ⟨(some 40), (.call (.c (.fn 82)) [(.t 39)]), 0, none⟩, ⟨(some 41), (.extract (.t 40) 0), 2, none⟩, ⟨(some 42), (.extract (.t 40) 1), 2, none⟩, ⟨none, (.store 2 (.t 2) (.t 41)), 2, none⟩, ⟨(some 3), (.mv (.t 42)), 2, none⟩] none) .ret) .skip)) (.seq (.reg [⟨(some 8), (.mv (.c (.bool false))), 0, none⟩] none) (.seq (.reg [⟨(some 44), (.mv (.t 4)), 0, none⟩, ⟨(some 45), (.call (.c (.fn 81)) [(.t 44)]), 0, none⟩, ⟨(some 43), (.mv (.t 45)), 2, none⟩, ⟨(some 46), (.extract (.t 43) 0), 2, none⟩, ⟨(some 47), (.extract (.t 43) 1), 2, none⟩, ⟨(some 6), (.mv (.t 46)), 2, none⟩, ⟨(some 8), (.mv (.t 47)), 2, none⟩] none) (.seq (.reg [⟨(some 48), (.mv (.t 8)), 0, none⟩, ⟨(some 49), (.un .not (.t 48)), 0, none⟩] none) (.cond (.t 49) (.seq (.reg [⟨(some 50), (.build [(.int .i64 0), (.sl 0 true [])] []), 0, none⟩, ⟨none, (.store 2 (.t 2) (.t 50)), 0, none⟩, ⟨(some 3), (.mv (.c (.int .i64 6))), 0, none⟩] none) .ret) .skip))))))))))))))))
def rs_parse : List IRes := [(.cell true 2 2), (.tmp 3)]
abbrev nt_parse : Nat := 51
def T_parse : Tab := tab [(80, .own pre_rd0 val_spaces), (81, .own pre_rd0 val_sign), (79, .own pre_rd1 val_item), (82, .own pre_resy val_resy)]
theorem parse_s {G : PV -> Prop} (s : List UInt8) (h : (pre_rd0 [(.ptr 0 0)] [(.box [(.pv (.str s)), (.pv (.int .i64 0)), (.map 1)]), (.map [])]) = true ∧ ((pre_rd0 [(.ptr 0 0)] [(.box [(.pv (.str (blanksS s))), (.pv (.int .i64 0)), (.map 1)]), (.map [])]) = true ∧ (At T_parse 0 (endP' rs_parse G) ic_parse 0 51 [(2, (.ptr 0 0)), (4, (.ptr 1 0)), (5, (.fn 79 [(.ptr 1 0)] [])), (6, (.pv (.int .i64 (Prod.fst (Prod.fst (signR (blanksS s)))))))] [(.obj (.box [(.pv (.int .i64 0)), (.pv (.sl 0 true []))])), (.obj (.box [(.pv (.str (Prod.snd (signR (blanksS s))))), (.pv (.int .i64 0)), (.map 2)])), (.obj (.map []))]))) : Gets T_parse 0 (endP' rs_parse G) ic_parse [] (st0 51 [.str s]) := Gets.tp (.req (.keep (.req (.keep (.nil))))) h (by kernel_rfl)
theorem parse_h0 {G : PV -> Prop} (s : List UInt8) (t : List UInt8) (n : Int) (m : List (Str × Int)) (g : Int) (h : (pre_rd0 [(.ptr 0 0)] [(.box [(.pv (.str t)), (.pv (.int .i64 n)), (.map 1)]), (.map (mapP m))]) = true ∧ ((pre_rd1 [(.ptr 0 0), (.pv (.int .i64 g))] [(.box [(.pv (.str (blanksS t))), (.pv (.int .i64 n)), (.map 1)]), (.map (mapP m))]) = true ∧ (if (!Prod.fst (itemR (RdS.mk (blanksS t) n (mapD (mapP m))) g)) = true then G ((.tup [(.agg [(.int .i64 0), (.sl 0 true [])]), (.int .i64 6)])) else ((pre_rd0 [(.ptr 0 0)] [(.box [(.pv (.str (RdS.s (Prod.snd (itemR (RdS.mk (blanksS t) n (mapD (mapP m))) g))))), (.pv (.int .i64 (RdS.n (Prod.snd (itemR (RdS.mk (blanksS t) n (mapD (mapP m))) g))))), (.map 1)]), (.map (mapP (RdS.m (Prod.snd (itemR (RdS.mk (blanksS t) n (mapD (mapP m))) g)))))]) = true ∧ (if (blanksS (RdS.s (Prod.snd (itemR (RdS.mk (blanksS t) n (mapD (mapP m))) g))) == []) = true then (pre_resy [(.ptr 0 1)] [(.box [(.pv (.str (blanksS (RdS.s (Prod.snd (itemR (RdS.mk (blanksS t) n (mapD (mapP m))) g)))))), (.pv (.int .i64 (RdS.n (Prod.snd (itemR (RdS.mk (blanksS t) n (mapD (mapP m))) g))))), (.map 1)]), (.map (mapP (RdS.m (Prod.snd (itemR (RdS.mk (blanksS t) n (mapD (mapP m))) g)))))]) = true ∧ (G ((.tup [(.agg [(.int .i64 (Lin.k (Prod.fst (resM (RdS.n (Prod.snd (itemR (RdS.mk (blanksS t) n (mapD (mapP m))) g))) (mapD (mapP (RdS.m (Prod.snd (itemR (RdS.mk (blanksS t) n (mapD (mapP m))) g))))))))), (.sl 2 false (List.map enc (Lin.t (Prod.fst (resM (RdS.n (Prod.snd (itemR (RdS.mk (blanksS t) n (mapD (mapP m))) g))) (mapD (mapP (RdS.m (Prod.snd (itemR (RdS.mk (blanksS t) n (mapD (mapP m))) g))))))))))]), (.int .i64 (Prod.snd (resM (RdS.n (Prod.snd (itemR (RdS.mk (blanksS t) n (mapD (mapP m))) g))) (mapD (mapP (RdS.m (Prod.snd (itemR (RdS.mk (blanksS t) n (mapD (mapP m))) g))))))))]))) else ((pre_rd0 [(.ptr 0 0)] [(.box [(.pv (.str (blanksS (RdS.s (Prod.snd (itemR (RdS.mk (blanksS t) n (mapD (mapP m))) g)))))), (.pv (.int .i64 (RdS.n (Prod.snd (itemR (RdS.mk (blanksS t) n (mapD (mapP m))) g))))), (.map 1)]), (.map (mapP (RdS.m (Prod.snd (itemR (RdS.mk (blanksS t) n (mapD (mapP m))) g)))))]) = true ∧ (if (!Prod.snd (Prod.fst (signR (blanksS (RdS.s (Prod.snd (itemR (RdS.mk (blanksS t) n (mapD (mapP m))) g))))))) = true then G ((.tup [(.agg [(.int .i64 0), (.sl 0 true [])]), (.int .i64 6)])) else (At T_parse 0 (endP' rs_parse G) ic_parse 0 51 [(2, (.ptr 0 0)), (4, (.ptr 1 0)), (5, (.fn 79 [(.ptr 1 0)] [])), (6, (.pv (.int .i64 (Prod.fst (Prod.fst (signR (blanksS (RdS.s (Prod.snd (itemR (RdS.mk (blanksS t) n (mapD (mapP m))) g))))))))))] [(.obj (.box [(.pv (.int .i64 0)), (.pv (.sl 0 true []))])), (.obj (.box [(.pv (.str (Prod.snd (signR (blanksS (RdS.s (Prod.snd (itemR (RdS.mk (blanksS t) n (mapD (mapP m))) g)))))))), (.pv (.int .i64 (RdS.n (Prod.snd (itemR (RdS.mk (blanksS t) n (mapD (mapP m))) g))))), (.map 2)])), (.obj (.map (mapP (RdS.m (Prod.snd (itemR (RdS.mk (blanksS t) n (mapD (mapP m))) g))))))])))))))) : At T_parse 0 (endP' rs_parse G) ic_parse 0 51 [(2, .ptr 0 0), (4, .ptr 1 0), (5, .fn 79 [.ptr 1 0] []), (6, .pv (.int .i64 g))] [.obj (.box [.pv (.int .i64 0), .pv (.sl 0 true [])]), .obj (.box [.pv (.str t), .pv (.int .i64 n), .map 2]), .obj (.map (mapP m))] := At.tp (.req (.keep (.req (.keep (.ask (.nil) (.req (.keep (.lit (.ask (.req (.keep (.nil))) (.req (.keep (.ask (.nil) (.nil))))))))))))) h (by kernel_rfl)
end Go.Pl

namespace Go.Pl
open Go.RowKit
open Enc (enc dec is)
open EncL (encL decL isL)
set_option maxRecDepth 100000
def ic_item : IC := (.seq (.reg [⟨(some 4), (.mv (.c (.bool false))), 0, none⟩] none) (.seq (.seq (.reg [⟨(some 11), (.mv (.t 0)), 0, none⟩, ⟨(some 12), (.nilchk (.t 11)), 0, none⟩, ⟨(some 13), (.faddr 0 (.t 12)), 0, none⟩, ⟨(some 14), (.load false [.str] (.t 13)), 0, none⟩, ⟨(some 15), (.bin .num .eql (.t 14) (.c (.str []))), 0, none⟩] none) (.cond (.t 15) (.seq (.reg [⟨(some 4), (.mv (.c (.bool false))), 0, none⟩] none) .ret) .skip)) (.seq (.seq (.reg [⟨(some 16), (.mv (.t 0)), 0, none⟩, ⟨(some 17), (.nilchk (.t 16)), 0, none⟩, ⟨(some 18), (.faddr 0 (.t 17)), 0, none⟩, ⟨(some 19), (.load false [.str] (.t 18)), 0, none⟩, ⟨(some 20), (.index (.t 19) (.c (.int .i64 0))), 0, none⟩, ⟨(some 21), (.call (.c (.fn 148)) [(.t 20)]), 0, none⟩, ⟨(some 22), (.un .not (.t 21)), 2, none⟩] none) (.cond (.t 22) (.seq (.reg [⟨(some 24), (.mv (.t 0)), 0, none⟩, ⟨(some 25), (.call (.c (.fn 149)) [(.t 24)]), 0, none⟩, ⟨(some 23), (.mv (.t 25)), 2, none⟩, ⟨(some 26), (.extract (.t 23) 0), 2, none⟩, ⟨(some 27), (.extract (.t 23) 1), 2, none⟩, ⟨(some 5), (.mv (.t 26)), 2, none⟩, ⟨(some 6), (.mv (.t 27)), 2, none⟩] none) (.seq (.reg [⟨(some 28), (.mv (.t 0)), 0, none⟩, ⟨(some 29), (.nilchk (.t 28)), 0, none⟩, ⟨(some 30), (.faddr 1 (.t 29)), 0, none⟩, ⟨(some 31), (.faddr 1 (.t 30)), 0, none⟩, ⟨(some 32), (.load false [.any] (.t 31)), 0, none⟩, ⟨(some 33), (.mv (.t 5)), 0, none⟩, ⟨(some 34), (.lookup true (.int .i64) (.int .i64 0) false (.t 32) (.t 33)), 0, none⟩, ⟨(some 35), (.mv (.t 1)), 0, none⟩, ⟨(some 36), (.bin .num .add (.t 34) (.t 35)), 0, none⟩, ⟨none, (.mapupd true (.t 32) (.t 33) (.t 36)), 0, none⟩] none) (.seq (.reg [⟨(some 37), (.mv (.t 6)), 0, none⟩, ⟨(some 4), (.mv (.t 37)), 0, none⟩] none) .ret))) .skip)) (.seq (.reg [⟨(some 39), (.mv (.t 0)), 0, none⟩, ⟨(some 40), (.call (.c (.fn 150)) [(.t 39)]), 0, none⟩, ⟨(some 38), (.mv (.t 40)), 2, none⟩, ⟨(some 41), (.extract (.t 38) 0), 2, none⟩, ⟨(some 42), (.extract (.t 38) 1), 2, none⟩, ⟨(some 7), (.mv (.t 41)), 2, none⟩, ⟨(some 8), (.mv (.t 42)), 2, none⟩] none) (.seq (.seq (.reg [⟨(some 43), (.mv (.t 8)), 0, none⟩, ⟨(some 44), (.un .not (.t 43)), 0, none⟩] none) (.cond (.t 44) (.seq (.reg [⟨(some 4), (.mv (.c (.bool false))), 0, none⟩] none) .ret) .skip)) (.seq (.reg [⟨(some 45), (.mv (.t 0)), 0, none⟩, ⟨(some 46), (.nilchk (.t 45)), 0, none⟩, ⟨(some 47), (.faddr 0 (.t 46)), 0, none⟩, ⟨(some 48), (.load false [.str] (.t 47)), 0, none⟩, ⟨(some 49), (.call (.c (.fn 151)) [(.t 48), (.c (.str [32]))]), 0, none⟩, ⟨(some 9), (.mv (.t 49)), 2, none⟩] none) (.seq (.block 0 (.seq (.reg [⟨(some 51), (.mv (.t 9)), 0, none⟩, ⟨(some 52), (.call (.c (.fn 152)) [(.t 51), (.c (.str [42]))]), 0, none⟩, ⟨(some 50), (.mv (.t 52)), 2, none⟩] none) (.cond (.t 50) (.seq (.reg [⟨(some 53), (.mv (.t 0)), 0, none⟩, ⟨(some 54), (.mv (.t 9)), 0, none⟩, ⟨(some 55), (.strslc (.t 54) (some (.c (.int .i64 1))) none), 0, none⟩, ⟨(some 56), (.nilchk (.t 53)), 0, none⟩, ⟨(some 57), (.faddr 0 (.t 56)), 0, none⟩, ⟨none, (.store 1 (.t 57) (.t 55)), 0, none⟩] none) (.reg [⟨(some 58), (.mv (.t 0)), 0, none⟩, ⟨(some 59), (.call (.c (.fn 80)) [(.t 58)]), 0, none⟩] none)) (.seq (.reg [⟨(some 61), (.mv (.t 0)), 0, none⟩, ⟨(some 62), (.nilchk (.t 61)), 0, none⟩, ⟨(some 63), (.faddr 0 (.t 62)), 0, none⟩, ⟨(some 64), (.load false [.str] (.t 63)), 0, none⟩, ⟨(some 65), (.bin .num .eql (.t 64) (.c (.str []))), 0, none⟩, ⟨(some 66), (.mv (.t 65)), 0, none⟩, ⟨(some 67), (.mv (.t 0)), 0, (some (66, false))⟩, ⟨(some 68), (.nilchk (.t 67)), 0, (some (66, false))⟩, ⟨(some 69), (.faddr 0 (.t 68)), 0, (some (66, false))⟩, ⟨(some 70), (.load false [.str] (.t 69)), 0, (some (66, false))⟩, ⟨(some 71), (.index (.t 70) (.c (.int .i64 0))), 0, (some (66, false))⟩, ⟨(some 72), (.call (.c (.fn 153)) [(.t 71)]), 0, (some (66, false))⟩, ⟨(some 73), (.un .not (.t 72)), 2, (some (66, false))⟩, ⟨(some 74), (.pick (.t 66) (.c (.bool true)) (.t 73)), 2, none⟩, ⟨(some 60), (.mv (.t 74)), 2, none⟩] none) (.cond (.t 60) (.seq (.reg [⟨(some 75), (.mv (.t 0)), 0, none⟩, ⟨(some 76), (.nilchk (.t 75)), 0, none⟩, ⟨(some 77), (.faddr 1 (.t 76)), 0, none⟩, ⟨(some 78), (.faddr 0 (.t 77)), 0, none⟩, ⟨(some 79), (.load false [(.int .i64)] (.t 78)), 0, none⟩, ⟨(some 80), (.mv (.t 1)), 0, none⟩, ⟨(some 81), (.mv (.t 7)), 0, none⟩, ⟨(some 82), (.bin .num .mul (.t 80) (.t 81)), 0, none⟩, ⟨(some 83), (.bin .num .add (.t 79) (.t 82)), 0, none⟩, ⟨(some 84), (.nilchk (.t 75)), 0, none⟩, ⟨(some 85), (.faddr 1 (.t 84)), 0, none⟩, ⟨(some 86), (.faddr 0 (.t 85)), 0, none⟩, ⟨none, (.store 1 (.t 86) (.t 83)), 0, none⟩] none) (.seq (.reg [⟨(some 4), (.mv (.c (.bool true))), 0, none⟩] none) .ret)) .skip))))) (.seq (.reg [⟨(some 88), (.mv (.t 0)), 0, none⟩, ⟨(some 89), (.call (.c (.fn 149)) [(.t 88)]), 0, none⟩, ⟨(some 87), (.mv (.t 89)), 2, none⟩, ⟨(some 90), (.extract (.t 87) 0), 2, none⟩, ⟨(some 91), (.extract (.t 87) 1), 2, none⟩, ⟨(some 10), (.mv (.t 90)), 2, none⟩, ⟨(some 8), (.mv (.t 91)), 2, none⟩] none) (.seq (.reg [⟨(some 92), (.mv (.t 0)), 0, none⟩, ⟨(some 93), (.nilchk (.t 92)), 0, none⟩, ⟨(some 94), (.faddr 1 (.t 93)), 0, none⟩, ⟨(some 95), (.faddr 1 (.t 94)), 0, none⟩, ⟨(some 96), (.load false [.any] (.t 95)), 0, none⟩, ⟨(some 97), (.mv (.t 10)), 0, none⟩, ⟨(some 98), (.lookup true (.int .i64) (.int .i64 0) false (.t 96) (.t 97)), 0, none⟩, ⟨(some 99), (.mv (.t 1)), 0, none⟩, ⟨(some 100), (.mv (.t 7)), 0, none⟩, ⟨(some 101), (.bin .num .mul (.t 99) (.t 100)), 0, none⟩, ⟨(some 102), (.bin .num .add (.t 98) (.t 101)), 0, none⟩, ⟨none, (.mapupd true (.t 96) (.t 97) (.t 102)), 0, none⟩] none) (.seq (.reg [⟨(some 103), (.mv (.t 8)), 0, none⟩, ⟨(some 4), (.mv (.t 103)), 0, none⟩] none) .ret))))))))))
def rs_item : List IRes := [(.tmp 4)]
abbrev nt_item : Nat := 104
def T_item : Tab := tab [(148, .pure (preT (fun _ : UInt8 × Unit => true)) (valT (fun x : UInt8 × Unit => digB x.1))), (149, .own pre_rd0 val_variable), (150, .own pre_rd0 val_number), (151, .pure (preT (fun x : Str × Str × Unit => decide (x.2.1 = ⟨[32]⟩))) (valT (fun x : Str × Str × Unit => (⟨blanksS x.1.s⟩ : Str)))), (152, .pure (preT (fun _ : Str × Str × Unit => true)) (valT (fun x : Str × Str × Unit => x.2.1.s.isPrefixOf x.1.s))), (80, .own pre_rd0 val_spaces), (153, .pure (preT (fun _ : UInt8 × Unit => true)) (valT (fun x : UInt8 × Unit => letB x.1)))]
theorem item_s {G : AV × List AObj × List AObj -> Prop} (s : List UInt8) (n : Int) (m : List (Str × Int)) (g : Int) (h : if (s == []) = true then G (((.pv (.bool false)), ([(.box [(.pv (.str s)), (.pv (.int .i64 n)), (.map 1)]), (.map (mapP m))], []))) else ((decide (0 <= 0) && decide (Int.toNat 0 < List.length s)) = true ∧ ((Go.Pl.preT (fun (x : UInt8 × Unit) => true) [(.int IntKind.u8 (↑(UInt8.toNat (List.getD s (Int.toNat 0) (0 : UInt8))) : Int))]) = true ∧ (∃ y0 : Bool, AV.pv (valT (fun (x : UInt8 × Unit) => digB x.1) [(.int IntKind.u8 (↑(UInt8.toNat (List.getD s (Int.toNat 0) (0 : UInt8))) : Int))]) = AV.pv (enc y0) ∧ (if (!y0) = true then (pre_rd0 [(.ptr 0 0)] [(.box [(.pv (.str s)), (.pv (.int .i64 n)), (.map 1)]), (.map (mapP m))]) = true ∧ ((lookOK (PV.str (List.takeWhile letB s)) (mapP m) && Sh.fit (Sh.int .i64) (lookD (PV.str (List.takeWhile letB s)) (PV.int .i64 0) (mapP m))) = true ∧ ((updOK (PV.str (List.takeWhile letB s)) (PV.int .i64 (IntKind.wrap IntKind.i64 (PV.asInt (lookD (PV.str (List.takeWhile letB s)) (PV.int .i64 0) (mapP m)) + g))) (mapP m)) = true ∧ (G (((.pv (.bool (nameB (Str.mk (List.takeWhile letB s))))), ([(.box [(.pv (.str (List.dropWhile letB s))), (.pv (.int .i64 n)), (.map 1)]), (.map (updL (PV.str (List.takeWhile letB s)) (PV.int .i64 (IntKind.wrap IntKind.i64 (PV.asInt (lookD (PV.str (List.takeWhile letB s)) (PV.int .i64 0) (mapP m)) + g))) (mapP m)))], [])))))) else ((pre_rd0 [(.ptr 0 0)] [(.box [(.pv (.str s)), (.pv (.int .i64 n)), (.map 1)]), (.map (mapP m))]) = true ∧ (if (!numOk (List.takeWhile digB s)) = true then G (((.pv (.bool false)), ([(.box [(.pv (.str (List.dropWhile digB s))), (.pv (.int .i64 n)), (.map 1)]), (.map (mapP m))], []))) else (∃ y1 : Str, AV.pv (valT (fun (x : Str × Str × Unit) => Str.mk (blanksS (Str.s x.1))) [(.str (List.dropWhile digB s)), (.str [(32 : UInt8)])]) = AV.pv (enc y1) ∧ (∃ y2 : Bool, AV.pv (valT (fun (x : Str × Str × Unit) => List.isPrefixOf (Str.s x.2.1) (Str.s x.1)) [(.str (Str.s y1)), (.str [(42 : UInt8)])]) = AV.pv (enc y2) ∧ (if (y2) = true then (decide (0 <= 1) && true && decide (Int.toNat 1 <= List.length (Str.s y1)) && decide (List.length (Str.s y1) <= List.length (Str.s y1))) = true ∧ ((pre_rd0 [(.ptr 0 0)] [(.box [(.pv (.str (List.drop (Int.toNat 1) (List.take (List.length (Str.s y1)) (Str.s y1))))), (.pv (.int .i64 n)), (.map 1)]), (.map (mapP m))]) = true ∧ ((pre_rd0 [(.ptr 0 0)] [(.box [(.pv (.str (blanksS (List.drop (Int.toNat 1) (List.take (List.length (Str.s y1)) (Str.s y1)))))), (.pv (.int .i64 n)), (.map 1)]), (.map (mapP m))]) = true ∧ ((lookOK (PV.str (List.takeWhile letB (blanksS (List.drop (Int.toNat 1) (List.take (List.length (Str.s y1)) (Str.s y1)))))) (mapP m) && Sh.fit (Sh.int .i64) (lookD (PV.str (List.takeWhile letB (blanksS (List.drop (Int.toNat 1) (List.take (List.length (Str.s y1)) (Str.s y1)))))) (PV.int .i64 0) (mapP m))) = true ∧ ((updOK (PV.str (List.takeWhile letB (blanksS (List.drop (Int.toNat 1) (List.take (List.length (Str.s y1)) (Str.s y1)))))) (PV.int .i64 (IntKind.wrap IntKind.i64 (PV.asInt (lookD (PV.str (List.takeWhile letB (blanksS (List.drop (Int.toNat 1) (List.take (List.length (Str.s y1)) (Str.s y1)))))) (PV.int .i64 0) (mapP m)) + IntKind.wrap IntKind.i64 (g * Prod.fst (atoiE (Str.mk (List.takeWhile digB s))))))) (mapP m)) = true ∧ (G (((.pv (.bool (nameB (Str.mk (List.takeWhile letB (blanksS (List.drop (Int.toNat 1) (List.take (List.length (Str.s y1)) (Str.s y1))))))))), ([(.box [(.pv (.str (List.dropWhile letB (blanksS (List.drop (Int.toNat 1) (List.take (List.length (Str.s y1)) (Str.s y1))))))), (.pv (.int .i64 n)), (.map 1)]), (.map (updL (PV.str (List.takeWhile letB (blanksS (List.drop (Int.toNat 1) (List.take (List.length (Str.s y1)) (Str.s y1)))))) (PV.int .i64 (IntKind.wrap IntKind.i64 (PV.asInt (lookD (PV.str (List.takeWhile letB (blanksS (List.drop (Int.toNat 1) (List.take (List.length (Str.s y1)) (Str.s y1)))))) (PV.int .i64 0) (mapP m)) + IntKind.wrap IntKind.i64 (g * Prod.fst (atoiE (Str.mk (List.takeWhile digB s))))))) (mapP m)))], [])))))))) else (if (List.dropWhile digB s == []) = true then G (((.pv (.bool true)), ([(.box [(.pv (.str (List.dropWhile digB s))), (.pv (.int .i64 (IntKind.wrap IntKind.i64 (n + IntKind.wrap IntKind.i64 (g * Prod.fst (atoiE (Str.mk (List.takeWhile digB s)))))))), (.map 1)]), (.map (mapP m))], []))) else ((decide (0 <= 0) && decide (Int.toNat 0 < List.length (List.dropWhile digB s))) = true ∧ ((Go.Pl.preT (fun (x : UInt8 × Unit) => true) [(.int IntKind.u8 (↑(UInt8.toNat (List.getD (List.dropWhile digB s) (Int.toNat 0) (0 : UInt8))) : Int))]) = true ∧ (∃ y3 : Bool, AV.pv (valT (fun (x : UInt8 × Unit) => letB x.1) [(.int IntKind.u8 (↑(UInt8.toNat (List.getD (List.dropWhile digB s) (Int.toNat 0) (0 : UInt8))) : Int))]) = AV.pv (enc y3) ∧ (if (!y3) = true then G (((.pv (.bool true)), ([(.box [(.pv (.str (List.dropWhile digB s))), (.pv (.int .i64 (IntKind.wrap IntKind.i64 (n + IntKind.wrap IntKind.i64 (g * Prod.fst (atoiE (Str.mk (List.takeWhile digB s)))))))), (.map 1)]), (.map (mapP m))], []))) else ((pre_rd0 [(.ptr 0 0)] [(.box [(.pv (.str (List.dropWhile digB s))), (.pv (.int .i64 n)), (.map 1)]), (.map (mapP m))]) = true ∧ ((lookOK (PV.str (List.takeWhile letB (List.dropWhile digB s))) (mapP m) && Sh.fit (Sh.int .i64) (lookD (PV.str (List.takeWhile letB (List.dropWhile digB s))) (PV.int .i64 0) (mapP m))) = true ∧ ((updOK (PV.str (List.takeWhile letB (List.dropWhile digB s))) (PV.int .i64 (IntKind.wrap IntKind.i64 (PV.asInt (lookD (PV.str (List.takeWhile letB (List.dropWhile digB s))) (PV.int .i64 0) (mapP m)) + IntKind.wrap IntKind.i64 (g * Prod.fst (atoiE (Str.mk (List.takeWhile digB s))))))) (mapP m)) = true ∧ (G (((.pv (.bool (nameB (Str.mk (List.takeWhile letB (List.dropWhile digB s)))))), ([(.box [(.pv (.str (List.dropWhile letB (List.dropWhile digB s)))), (.pv (.int .i64 n)), (.map 1)]), (.map (updL (PV.str (List.takeWhile letB (List.dropWhile digB s))) (PV.int .i64 (IntKind.wrap IntKind.i64 (PV.asInt (lookD (PV.str (List.takeWhile letB (List.dropWhile digB s))) (PV.int .i64 0) (mapP m)) + IntKind.wrap IntKind.i64 (g * Prod.fst (atoiE (Str.mk (List.takeWhile digB s))))))) (mapP m)))], [])))))))))))))))))))))) : Gets T_item 2 (endO' 2 rs_item G) ic_item [] (st0O 104 [.ptr 0 0, .pv (.int .i64 g)] [.box [.pv (.str s), .pv (.int .i64 n), .map 1], .map (mapP m)]) := Gets.to (.lit (.ask (.nil) (.req (.req (.abs (Bool) (fun YY => AV.pv (enc YY)) (.ask (.req (.keep (.req (.keep (.lit (.req (.nil))))))) (.req (.keep (.ask (.nil) (.lit (.abs (Str) (fun YY => AV.pv (enc YY)) (.lit (.abs (Bool) (fun YY => AV.pv (enc YY)) (.ask (.req (.req (.keep (.req (.keep (.req (.keep (.lit (.lit (.req (.nil))))))))))) (.lit (.ask (.lit (.lit (.lit (.lit (.lit (.lit (.lit (.lit (.lit (.lit (.nil))))))))))) (.lit (.lit (.lit (.lit (.req (.lit (.req (.abs (Bool) (fun YY => AV.pv (enc YY)) (.lit (.lit (.ask (.lit (.lit (.nil))) (.req (.keep (.req (.keep (.lit (.lit (.req (.nil))))))))))))))))))))))))))))))))))) h (by kernel_rfl)
end Go.Pl

namespace Go.Pl
open Go.RowKit
open Enc (enc dec is)
open EncL (encL decL isL)
set_option maxRecDepth 100000
def ic_letter : IC := (.seq (.reg [⟨(some 2), (.mv (.c (.bool false))), 0, none⟩] none) (.seq (.reg [⟨(some 3), (.mv (.t 0)), 0, none⟩, ⟨(some 4), (.bin .num .geq (.t 3) (.c (.int .u8 97))), 0, none⟩, ⟨(some 5), (.mv (.t 4)), 0, none⟩, ⟨(some 6), (.mv (.t 0)), 0, (some (5, true))⟩, ⟨(some 7), (.bin .num .leq (.t 6) (.c (.int .u8 122))), 0, (some (5, true))⟩, ⟨(some 8), (.pick (.t 5) (.t 7) (.c (.bool false))), 0, none⟩, ⟨(some 9), (.mv (.t 8)), 0, none⟩, ⟨(some 10), (.mv (.t 0)), 0, (some (9, false))⟩, ⟨(some 11), (.bin .num .eql (.t 10) (.c (.int .u8 95))), 0, (some (9, false))⟩, ⟨(some 12), (.pick (.t 9) (.c (.bool true)) (.t 11)), 0, none⟩, ⟨(some 13), (.mv (.t 12)), 0, none⟩, ⟨(some 14), (.mv (.t 0)), 0, (some (13, false))⟩, ⟨(some 15), (.call (.c (.fn 148)) [(.t 14)]), 0, (some (13, false))⟩, ⟨(some 16), (.pick (.t 13) (.c (.bool true)) (.t 15)), 2, none⟩, ⟨(some 2), (.mv (.t 16)), 2, none⟩] none) .ret))
def rs_letter : List IRes := [(.tmp 2)]
abbrev nt_letter : Nat := 17
def T_letter : Tab := tab [(148, .pure (preT (fun _ : UInt8 × Unit => true)) (valT (fun x : UInt8 × Unit => digB x.1)))]
theorem letter_s {G : PV -> Prop} (c : UInt8) (h : if (decide ((↑(UInt8.toNat c) : Int) ≥ 97)) = true then if (decide ((↑(UInt8.toNat c) : Int) <= 122)) = true then G ((.bool true)) else (if ((↑(UInt8.toNat c) : Int) == 95) = true then G ((.bool true)) else ((Go.Pl.preT (fun (x : UInt8 × Unit) => true) [(.int IntKind.u8 (↑(UInt8.toNat c) : Int))]) = true ∧ (∃ y0 : Bool, AV.pv (valT (fun (x : UInt8 × Unit) => digB x.1) [(.int IntKind.u8 (↑(UInt8.toNat c) : Int))]) = AV.pv (enc y0) ∧ (G ((.bool y0)))))) else (if ((↑(UInt8.toNat c) : Int) == 95) = true then G ((.bool true)) else ((Go.Pl.preT (fun (x : UInt8 × Unit) => true) [(.int IntKind.u8 (↑(UInt8.toNat c) : Int))]) = true ∧ (∃ y1 : Bool, AV.pv (valT (fun (x : UInt8 × Unit) => digB x.1) [(.int IntKind.u8 (↑(UInt8.toNat c) : Int))]) = AV.pv (enc y1) ∧ (G ((.bool y1))))))) : Gets T_letter 0 (endP' rs_letter G) ic_letter [] (st0 17 [enc c]) := Gets.tp (.lit (.ask (.lit (.lit (.lit (.ask (.lit (.lit (.lit (.lit (.lit (.nil)))))) (.lit (.lit (.lit (.ask (.lit (.lit (.nil))) (.lit (.req (.abs (Bool) (fun YY => AV.pv (enc YY)) (.lit (.nil))))))))))))) (.lit (.lit (.lit (.lit (.lit (.lit (.ask (.lit (.lit (.nil))) (.lit (.req (.abs (Bool) (fun YY => AV.pv (enc YY)) (.lit (.nil)))))))))))))) h (by kernel_rfl)
def ic_spaces : IC := (.reg [⟨(some 2), (.mv (.t 0)), 0, none⟩, ⟨(some 3), (.mv (.t 0)), 0, none⟩, ⟨(some 4), (.nilchk (.t 3)), 0, none⟩, ⟨(some 5), (.faddr 0 (.t 4)), 0, none⟩, ⟨(some 6), (.load false [.str] (.t 5)), 0, none⟩, ⟨(some 7), (.call (.c (.fn 151)) [(.t 6), (.c (.str [32]))]), 0, none⟩, ⟨(some 8), (.nilchk (.t 2)), 2, none⟩, ⟨(some 9), (.faddr 0 (.t 8)), 2, none⟩, ⟨none, (.store 1 (.t 9) (.t 7)), 2, none⟩] none)
def rs_spaces : List IRes := []
abbrev nt_spaces : Nat := 10
def T_spaces : Tab := tab [(151, .pure (preT (fun x : Str × Str × Unit => decide (x.2.1 = ⟨[32]⟩))) (valT (fun x : Str × Str × Unit => (⟨blanksS x.1.s⟩ : Str))))]
theorem spaces_s {G : AV × List AObj × List AObj -> Prop} (s : List UInt8) (n : Int) (es : List (PV × PV)) (h : ∃ y0 : Str, AV.pv (valT (fun (x : Str × Str × Unit) => Str.mk (blanksS (Str.s x.1))) [(.str s), (.str [(32 : UInt8)])]) = AV.pv (enc y0) ∧ (G (((.tup []), ([(.box [(.pv (.str (Str.s y0))), (.pv (.int .i64 n)), (.map 1)]), (.map es)], []))))) : Gets T_spaces 2 (endO' 2 rs_spaces G) ic_spaces [] (st0O 10 [.ptr 0 0] [.box [.pv (.str s), .pv (.int .i64 n), .map 1], .map es]) := Gets.to (.lit (.abs (Str) (fun YY => AV.pv (enc YY)) (.nil))) h (by kernel_rfl)
def ic_taked : IC := (.seq (.reg [⟨(some 4), (.mv (.c (.str []))), 0, none⟩] none) (.seq (.reg [⟨(some 5), (.mv (.c (.int .i64 0))), 0, none⟩] none) (.seq (.block 0 (.loop [5, 0, 1] (.seq (.seq (.reg [⟨(some 7), (.mv (.t 5)), 0, none⟩, ⟨(some 8), (.mv (.t 0)), 0, none⟩, ⟨(some 9), (.nilchk (.t 8)), 0, none⟩, ⟨(some 10), (.faddr 0 (.t 9)), 0, none⟩, ⟨(some 11), (.load false [.str] (.t 10)), 0, none⟩, ⟨(some 12), (.len 0 (.t 11)), 0, none⟩, ⟨(some 13), (.bin .num .lss (.t 7) (.t 12)), 0, none⟩, ⟨(some 14), (.mv (.t 13)), 0, none⟩, ⟨(some 15), (.mv (.t 1)), 0, (some (14, true))⟩, ⟨(some 16), (.mv (.t 0)), 0, (some (14, true))⟩, ⟨(some 17), (.nilchk (.t 16)), 0, (some (14, true))⟩, ⟨(some 18), (.faddr 0 (.t 17)), 0, (some (14, true))⟩, ⟨(some 19), (.load false [.str] (.t 18)), 0, (some (14, true))⟩, ⟨(some 20), (.mv (.t 5)), 0, (some (14, true))⟩, ⟨(some 21), (.index (.t 19) (.t 20)), 0, (some (14, true))⟩, ⟨(some 22), (.call (.t 15) [(.t 21)]), 0, (some (14, true))⟩, ⟨(some 23), (.pick (.t 14) (.t 22) (.c (.bool false))), 2, none⟩] none) (.cond (.t 23) .skip (.exit 0))) (.block 1 (.reg [⟨(some 24), (.mv (.t 5)), 0, none⟩, ⟨(some 25), (.bin .num .add (.t 24) (.c (.int .i64 1))), 0, none⟩, ⟨(some 5), (.mv (.t 25)), 0, none⟩] none))))) (.seq (.reg [⟨(some 26), (.mv (.t 0)), 0, none⟩, ⟨(some 27), (.nilchk (.t 26)), 0, none⟩, ⟨(some 28), (.faddr 0 (.t 27)), 0, none⟩, ⟨(some 29), (.load false [.str] (.t 28)), 0, none⟩, ⟨(some 30), (.mv (.t 5)), 0, none⟩, ⟨(some 31), (.strslc (.t 29) none (some (.t 30))), 0, none⟩, ⟨(some 6), (.mv (.t 31)), 0, none⟩] none) (.seq (.reg [⟨(some 32), (.mv (.t 0)), 0, none⟩, ⟨(some 33), (.mv (.t 0)), 0, none⟩, ⟨(some 34), (.nilchk (.t 33)), 0, none⟩, ⟨(some 35), (.faddr 0 (.t 34)), 0, none⟩, ⟨(some 36), (.load false [.str] (.t 35)), 0, none⟩, ⟨(some 37), (.mv (.t 5)), 0, none⟩, ⟨(some 38), (.strslc (.t 36) (some (.t 37)) none), 0, none⟩, ⟨(some 39), (.nilchk (.t 32)), 0, none⟩, ⟨(some 40), (.faddr 0 (.t 39)), 0, none⟩, ⟨none, (.store 1 (.t 40) (.t 38)), 0, none⟩] none) (.seq (.reg [⟨(some 41), (.mv (.t 6)), 0, none⟩, ⟨(some 4), (.mv (.t 41)), 0, none⟩] none) .ret))))))
def rs_taked : List IRes := [(.tmp 4)]
abbrev nt_taked : Nat := 42
def T_taked : Tab := tab [(148, .pure (preT (fun _ : UInt8 × Unit => true)) (valT (fun x : UInt8 × Unit => digB x.1)))]
theorem taked_s {G : AV × List AObj × List AObj -> Prop} (s : List UInt8) (n : Int) (es : List (PV × PV)) (h : At T_taked 2 (endO' 2 rs_taked G) ic_taked 0 42 [(0, (.ptr 0 0)), (1, (.pv (.fn 148))), (5, (.pv (.int .i64 0)))] [(.obj (.box [(.pv (.str s)), (.pv (.int .i64 n)), (.map 1)])), (.obj (.map es))]) : Gets T_taked 2 (endO' 2 rs_taked G) ic_taked [] (st0O 42 [.ptr 0 0, .pv (.fn 148)] [.box [.pv (.str s), .pv (.int .i64 n), .map 1], .map es]) := Gets.to (.nil) h (by kernel_rfl)
theorem taked_h0 {G : AV × List AObj × List AObj -> Prop} (s : List UInt8) (n : Int) (es : List (PV × PV)) (i : Int) (h : if (decide (i < (↑(List.length s) : Int))) = true then (decide (0 <= i) && decide (Int.toNat i < List.length s)) = true ∧ ((Go.Pl.preT (fun (x : UInt8 × Unit) => true) [(.int IntKind.u8 (↑(UInt8.toNat (List.getD s (Int.toNat i) (0 : UInt8))) : Int))]) = true ∧ (∃ y0 : Bool, AV.pv (valT (fun (x : UInt8 × Unit) => digB x.1) [(.int IntKind.u8 (↑(UInt8.toNat (List.getD s (Int.toNat i) (0 : UInt8))) : Int))]) = AV.pv (enc y0) ∧ (if (y0) = true then At T_taked 2 (endO' 2 rs_taked G) ic_taked 0 42 [(0, (.ptr 0 0)), (1, (.pv (.fn 148))), (5, (.pv (.int .i64 (IntKind.wrap IntKind.i64 (i + 1)))))] [(.obj (.box [(.pv (.str s)), (.pv (.int .i64 n)), (.map 1)])), (.obj (.map es))] else ((true && decide (0 <= i) && decide (0 <= Int.toNat i) && decide (Int.toNat i <= List.length s)) = true ∧ ((decide (0 <= i) && true && decide (Int.toNat i <= List.length s) && decide (List.length s <= List.length s)) = true ∧ (G (((.pv (.str (List.drop 0 (List.take (Int.toNat i) s)))), ([(.box [(.pv (.str (List.drop (Int.toNat i) (List.take (List.length s) s)))), (.pv (.int .i64 n)), (.map 1)]), (.map es)], []))))))))) else ((true && decide (0 <= i) && decide (0 <= Int.toNat i) && decide (Int.toNat i <= List.length s)) = true ∧ ((decide (0 <= i) && true && decide (Int.toNat i <= List.length s) && decide (List.length s <= List.length s)) = true ∧ (G (((.pv (.str (List.drop 0 (List.take (Int.toNat i) s)))), ([(.box [(.pv (.str (List.drop (Int.toNat i) (List.take (List.length s) s)))), (.pv (.int .i64 n)), (.map 1)]), (.map es)], []))))))) : At T_taked 2 (endO' 2 rs_taked G) ic_taked 0 42 [(0, .ptr 0 0), (1, .pv (.fn 148)), (5, .pv (.int .i64 i))] [.obj (.box [.pv (.str s), .pv (.int .i64 n), .map 1]), .obj (.map es)] := At.to (.lit (.ask (.lit (.lit (.lit (.lit (.lit (.lit (.req (.lit (.req (.abs (Bool) (fun YY => AV.pv (enc YY)) (.lit (.ask (.lit (.nil)) (.req (.req (.nil))))))))))))))) (.lit (.lit (.lit (.lit (.lit (.lit (.lit (.lit (.lit (.req (.req (.nil)))))))))))))) h (by kernel_rfl)
def ic_takel : IC := ic_taked
def rs_takel : List IRes := [(.tmp 4)]
abbrev nt_takel : Nat := 42
def T_takel : Tab := tab [(153, .pure (preT (fun _ : UInt8 × Unit => true)) (valT (fun x : UInt8 × Unit => letB x.1)))]
theorem takel_s {G : AV × List AObj × List AObj -> Prop} (s : List UInt8) (n : Int) (es : List (PV × PV)) (h : At T_takel 2 (endO' 2 rs_takel G) ic_takel 0 42 [(0, (.ptr 0 0)), (1, (.pv (.fn 153))), (5, (.pv (.int .i64 0)))] [(.obj (.box [(.pv (.str s)), (.pv (.int .i64 n)), (.map 1)])), (.obj (.map es))]) : Gets T_takel 2 (endO' 2 rs_takel G) ic_takel [] (st0O 42 [.ptr 0 0, .pv (.fn 153)] [.box [.pv (.str s), .pv (.int .i64 n), .map 1], .map es]) := Gets.to (.nil) h (by kernel_rfl)
theorem takel_h0 {G : AV × List AObj × List AObj -> Prop} (s : List UInt8) (n : Int) (es : List (PV × PV)) (i : Int) (h : if (decide (i < (↑(List.length s) : Int))) = true then (decide (0 <= i) && decide (Int.toNat i < List.length s)) = true ∧ ((Go.Pl.preT (fun (x : UInt8 × Unit) => true) [(.int IntKind.u8 (↑(UInt8.toNat (List.getD s (Int.toNat i) (0 : UInt8))) : Int))]) = true ∧ (∃ y0 : Bool, AV.pv (valT (fun (x : UInt8 × Unit) => letB x.1) [(.int IntKind.u8 (↑(UInt8.toNat (List.getD s (Int.toNat i) (0 : UInt8))) : Int))]) = AV.pv (enc y0) ∧ (if (y0) = true then At T_takel 2 (endO' 2 rs_takel G) ic_takel 0 42 [(0, (.ptr 0 0)), (1, (.pv (.fn 153))), (5, (.pv (.int .i64 (IntKind.wrap IntKind.i64 (i + 1)))))] [(.obj (.box [(.pv (.str s)), (.pv (.int .i64 n)), (.map 1)])), (.obj (.map es))] else ((true && decide (0 <= i) && decide (0 <= Int.toNat i) && decide (Int.toNat i <= List.length s)) = true ∧ ((decide (0 <= i) && true && decide (Int.toNat i <= List.length s) && decide (List.length s <= List.length s)) = true ∧ (G (((.pv (.str (List.drop 0 (List.take (Int.toNat i) s)))), ([(.box [(.pv (.str (List.drop (Int.toNat i) (List.take (List.length s) s)))), (.pv (.int .i64 n)), (.map 1)]), (.map es)], []))))))))) else ((true && decide (0 <= i) && decide (0 <= Int.toNat i) && decide (Int.toNat i <= List.length s)) = true ∧ ((decide (0 <= i) && true && decide (Int.toNat i <= List.length s) && decide (List.length s <= List.length s)) = true ∧ (G (((.pv (.str (List.drop 0 (List.take (Int.toNat i) s)))), ([(.box [(.pv (.str (List.drop (Int.toNat i) (List.take (List.length s) s)))), (.pv (.int .i64 n)), (.map 1)]), (.map es)], []))))))) : At T_takel 2 (endO' 2 rs_takel G) ic_takel 0 42 [(0, .ptr 0 0), (1, .pv (.fn 153)), (5, .pv (.int .i64 i))] [.obj (.box [.pv (.str s), .pv (.int .i64 n), .map 1]), .obj (.map es)] := At.to (.lit (.ask (.lit (.lit (.lit (.lit (.lit (.lit (.req (.lit (.req (.abs (Bool) (fun YY => AV.pv (enc YY)) (.lit (.ask (.lit (.nil)) (.req (.req (.nil))))))))))))))) (.lit (.lit (.lit (.lit (.lit (.lit (.lit (.lit (.lit (.req (.req (.nil)))))))))))))) h (by kernel_rfl)
def ic_number : IC := (.seq (.reg [⟨(some 2), (.mv (.c (.int .i64 0))), 0, none⟩, ⟨(some 3), (.mv (.c (.bool false))), 0, none⟩] none) (.seq (.reg [⟨(some 7), (.mv (.t 0)), 0, none⟩, ⟨(some 8), (.call (.c (.fn 216)) [(.t 7), (.c (.fn 148))]), 0, none⟩, ⟨(some 4), (.mv (.t 8)), 2, none⟩] none) (.seq (.reg [⟨(some 10), (.mv (.t 4)), 0, none⟩, ⟨(some 11), (.call (.c (.fn 182)) [(.t 10)]), 0, none⟩, ⟨(some 9), (.mv (.t 11)), 2, none⟩, ⟨(some 12), (.extract (.t 9) 0), 2, none⟩, ⟨(some 13), (.extract (.t 9) 1), 2, none⟩, ⟨(some 5), (.mv (.t 12)), 2, none⟩, ⟨(some 6), (.mv (.t 13)), 2, none⟩] none) (.seq (.reg [⟨(some 14), (.mv (.t 5)), 0, none⟩, ⟨(some 15), (.mv (.t 6)), 0, none⟩, ⟨(some 16), (.bin .ifc .eql (.t 15) (.c .nili)), 0, none⟩, ⟨(some 17), (.mv (.t 16)), 0, none⟩, ⟨(some 18), (.mv (.t 4)), 0, (some (17, true))⟩, ⟨(some 19), (.len 0 (.t 18)), 0, (some (17, true))⟩, ⟨(some 20), (.bin .num .leq (.t 19) (.c (.int .i64 7))), 0, (some (17, true))⟩, ⟨(some 21), (.pick (.t 17) (.t 20) (.c (.bool false))), 0, none⟩, ⟨(some 22), (.mv (.t 21)), 0, none⟩, ⟨(some 23), (.mv (.t 4)), 0, (some (22, true))⟩, ⟨(some 24), (.index (.t 23) (.c (.int .i64 0))), 0, (some (22, true))⟩, ⟨(some 25), (.bin .num .neq (.t 24) (.c (.int .u8 48))), 0, (some (22, true))⟩, ⟨(some 26), (.mv (.t 25)), 0, (some (22, true))⟩, ⟨(some 27), (.mv (.t 4)), 0, (some (26, false))⟩, ⟨(some 28), (.bin .num .eql (.t 27) (.c (.str [48]))), 0, (some (26, false))⟩, ⟨(some 29), (.pick (.t 26) (.c (.bool true)) (.t 28)), 0, (some (22, true))⟩, ⟨(some 30), (.pick (.t 22) (.t 29) (.c (.bool false))), 0, none⟩, ⟨(some 2), (.mv (.t 14)), 0, none⟩, ⟨(some 3), (.mv (.t 30)), 0, none⟩] none) .ret))))
def rs_number : List IRes := [(.tmp 2), (.tmp 3)]
abbrev nt_number : Nat := 31
def T_number : Tab := tab [(216, .own (pre_take 148) (takeW digB)), (182, .pure (preT (fun x : Str × Unit => decide (x.1.s.length <= 1000000))) (valT (fun x : Str × Unit => atoiE x.1)))]
theorem number_s {G : AV × List AObj × List AObj -> Prop} (s : List UInt8) (n : Int) (es : List (PV × PV)) (h : (pre_take 148 [(.ptr 0 0), (.pv (.fn 148))] [(.box [(.pv (.str s)), (.pv (.int .i64 n)), (.map 1)]), (.map es)]) = true ∧ ((Go.Pl.preT (fun (x : Str × Unit) => decide (List.length (Str.s x.1) <= 1000000)) [(.str (List.takeWhile digB s))]) = true ∧ (∃ y0 : Int × Er, AV.pv (valT (fun (x : Str × Unit) => atoiE x.1) [(.str (List.takeWhile digB s))]) = AV.pv (enc y0) ∧ ((isIfP (enc y0.2) && Prod.fst (true, PV.bool (isNilI (enc y0.2)))) = true ∧ (if (isNilI (enc y0.2)) = true then if (decide ((↑(List.length (List.takeWhile digB s)) : Int) <= 7)) = true then (decide (0 <= 0) && decide (Int.toNat 0 < List.length (List.takeWhile digB s))) = true ∧ (if ((↑(UInt8.toNat (List.getD (List.takeWhile digB s) (Int.toNat 0) (0 : UInt8))) : Int) != 48) = true then G (((.tup [(.pv (.int .i64 y0.1)), (.pv (.bool true))]), ([(.box [(.pv (.str (List.dropWhile digB s))), (.pv (.int .i64 n)), (.map 1)]), (.map es)], []))) else (G (((.tup [(.pv (.int .i64 y0.1)), (.pv (.bool (List.takeWhile digB s == [(48 : UInt8)])))]), ([(.box [(.pv (.str (List.dropWhile digB s))), (.pv (.int .i64 n)), (.map 1)]), (.map es)], []))))) else (G (((.tup [(.pv (.int .i64 y0.1)), (.pv (.bool false))]), ([(.box [(.pv (.str (List.dropWhile digB s))), (.pv (.int .i64 n)), (.map 1)]), (.map es)], [])))) else (G (((.tup [(.pv (.int .i64 y0.1)), (.pv (.bool false))]), ([(.box [(.pv (.str (List.dropWhile digB s))), (.pv (.int .i64 n)), (.map 1)]), (.map es)], []))))))))) : Gets T_number 2 (endO' 2 rs_number G) ic_number [] (st0O 31 [.ptr 0 0] [.box [.pv (.str s), .pv (.int .i64 n), .map 1], .map es]) := Gets.to (.req (.keep (.req (.abs (Int × Er) (fun YY => AV.pv (enc YY)) (.req (.ask (.lit (.lit (.lit (.lit (.ask (.lit (.req (.lit (.lit (.lit (.ask (.lit (.lit (.lit (.lit (.nil))))) (.lit (.lit (.lit (.lit (.lit (.nil)))))))))))) (.lit (.lit (.lit (.lit (.lit (.nil))))))))))) (.lit (.lit (.lit (.lit (.lit (.lit (.lit (.lit (.lit (.nil)))))))))))))))) h (by kernel_rfl)
def ic_variable : IC := (.seq (.reg [⟨(some 2), (.mv (.c (.str []))), 0, none⟩, ⟨(some 3), (.mv (.c (.bool false))), 0, none⟩] none) (.seq (.reg [⟨(some 5), (.mv (.t 0)), 0, none⟩, ⟨(some 6), (.call (.c (.fn 216)) [(.t 5), (.c (.fn 153))]), 0, none⟩, ⟨(some 4), (.mv (.t 6)), 2, none⟩] none) (.seq (.reg [⟨(some 7), (.mv (.t 4)), 0, none⟩, ⟨(some 8), (.mv (.t 4)), 0, none⟩, ⟨(some 9), (.call (.c (.fn 119)) [(.t 8)]), 0, none⟩, ⟨(some 2), (.mv (.t 7)), 2, none⟩, ⟨(some 3), (.mv (.t 9)), 2, none⟩] none) .ret)))
def rs_variable : List IRes := [(.tmp 2), (.tmp 3)]
abbrev nt_variable : Nat := 10
def T_variable : Tab := tab [(216, .own (pre_take 153) (takeW letB)), (119, .pure (preT (fun x : Str × Unit => decide (x.1.s.length <= 1000000))) (valT (fun x : Str × Unit => nameB x.1)))]
theorem variable_s {G : AV × List AObj × List AObj -> Prop} (s : List UInt8) (n : Int) (es : List (PV × PV)) (h : (pre_take 153 [(.ptr 0 0), (.pv (.fn 153))] [(.box [(.pv (.str s)), (.pv (.int .i64 n)), (.map 1)]), (.map es)]) = true ∧ ((Go.Pl.preT (fun (x : Str × Unit) => decide (List.length (Str.s x.1) <= 1000000)) [(.str (List.takeWhile letB s))]) = true ∧ (∃ y0 : Bool, AV.pv (valT (fun (x : Str × Unit) => nameB x.1) [(.str (List.takeWhile letB s))]) = AV.pv (enc y0) ∧ (G (((.tup [(.pv (.str (List.takeWhile letB s))), (.pv (.bool y0))]), ([(.box [(.pv (.str (List.dropWhile letB s))), (.pv (.int .i64 n)), (.map 1)]), (.map es)], []))))))) : Gets T_variable 2 (endO' 2 rs_variable G) ic_variable [] (st0O 10 [.ptr 0 0] [.box [.pv (.str s), .pv (.int .i64 n), .map 1], .map es]) := Gets.to (.req (.keep (.req (.abs (Bool) (fun YY => AV.pv (enc YY)) (.nil))))) h (by kernel_rfl)
def ic_sign : IC := (.seq (.reg [⟨(some 2), (.mv (.c (.int .i64 0))), 0, none⟩, ⟨(some 3), (.mv (.c (.bool false))), 0, none⟩] none) (.seq (.seq (.reg [⟨(some 6), (.build [(.str []), (.str [])] [(0, (1, (.c (.str [43])))), (1, (1, (.c (.str [45]))))]), 0, none⟩, ⟨(some 7), (.mv (.c (.int .i64 0))), 0, none⟩] none) (.block 0 (.loop [7, 6, 0] (.seq (.reg [⟨(some 8), (.bin .num .lss (.t 7) (.c (.int .i64 2))), 0, none⟩] none) (.seq (.cond (.t 8) .skip (.exit 0)) (.seq (.block 1 (.seq (.reg [⟨(some 9), (.mv (.t 7)), 0, none⟩, ⟨(some 10), (.indexA 2 1 (.t 6) (.t 7)), 0, none⟩, ⟨(some 4), (.mv (.t 9)), 0, none⟩, ⟨(some 5), (.mv (.t 10)), 0, none⟩] none) (.seq (.reg [⟨(some 11), (.mv (.t 0)), 0, none⟩, ⟨(some 12), (.nilchk (.t 11)), 0, none⟩, ⟨(some 13), (.faddr 0 (.t 12)), 0, none⟩, ⟨(some 14), (.load false [.str] (.t 13)), 0, none⟩, ⟨(some 15), (.mv (.t 5)), 0, none⟩, ⟨(some 16), (.call (.c (.fn 152)) [(.t 14), (.t 15)]), 0, none⟩] none) (.cond (.t 16) (.seq (.reg [⟨(some 17), (.mv (.t 0)), 0, none⟩, ⟨(some 18), (.mv (.t 0)), 0, none⟩, ⟨(some 19), (.nilchk (.t 18)), 0, none⟩, ⟨(some 20), (.faddr 0 (.t 19)), 0, none⟩, ⟨(some 21), (.load false [.str] (.t 20)), 0, none⟩, ⟨(some 22), (.strslc (.t 21) (some (.c (.int .i64 1))) none), 0, none⟩, ⟨(some 23), (.nilchk (.t 17)), 0, none⟩, ⟨(some 24), (.faddr 0 (.t 23)), 0, none⟩, ⟨none, (.store 1 (.t 24) (.t 22)), 0, none⟩] none) (.seq (.reg [⟨(some 25), (.mv (.t 4)), 0, none⟩, ⟨(some 26), (.bin .num .mul (.c (.int .i64 2)) (.t 25)), 0, none⟩, ⟨(some 27), (.bin .num .sub (.c (.int .i64 1)) (.t 26)), 0, none⟩, ⟨(some 2), (.mv (.t 27)), 0, none⟩, ⟨(some 3), (.mv (.c (.bool true))), 0, none⟩] none) .ret)) .skip)))) (.reg [⟨(some 28), (.bin .num .add (.t 7) (.c (.int .i64 1))), 0, none⟩, ⟨(some 7), (.mv (.t 28)), 0, none⟩] none))))))) (.seq (.reg [⟨(some 2), (.mv (.c (.int .i64 1))), 0, none⟩, ⟨(some 3), (.mv (.c (.bool false))), 0, none⟩] none) .ret)))
def rs_sign : List IRes := [(.tmp 2), (.tmp 3)]
abbrev nt_sign : Nat := 29
def T_sign : Tab := tab [(152, .pure (preT (fun _ : Str × Str × Unit => true)) (valT (fun x : Str × Str × Unit => x.2.1.s.isPrefixOf x.1.s)))]
theorem sign_s {G : AV × List AObj × List AObj -> Prop} (s : List UInt8) (n : Int) (es : List (PV × PV)) (h : At T_sign 2 (endO' 2 rs_sign G) ic_sign 0 29 [(0, (.ptr 0 0)), (6, (.pv (.agg [(.str [(43 : UInt8)]), (.str [(45 : UInt8)])]))), (7, (.pv (.int .i64 0)))] [(.obj (.box [(.pv (.str s)), (.pv (.int .i64 n)), (.map 1)])), (.obj (.map es))]) : Gets T_sign 2 (endO' 2 rs_sign G) ic_sign [] (st0O 29 [.ptr 0 0] [.box [.pv (.str s), .pv (.int .i64 n), .map 1], .map es]) := Gets.to (.nil) h (by kernel_rfl)
theorem sign_h0a {G : AV × List AObj × List AObj -> Prop} (s : List UInt8) (n : Int) (es : List (PV × PV))  (h : ∃ y0 : Bool, AV.pv (valT (fun (x : Str × Str × Unit) => List.isPrefixOf (Str.s x.2.1) (Str.s x.1)) [(.str s), (.str [(43 : UInt8)])]) = AV.pv (enc y0) ∧ (if (y0) = true then (decide (0 <= 1) && true && decide (Int.toNat 1 <= List.length s) && decide (List.length s <= List.length s)) = true ∧ (G (((.tup [(.pv (.int .i64 1)), (.pv (.bool true))]), ([(.box [(.pv (.str (List.drop (Int.toNat 1) (List.take (List.length s) s)))), (.pv (.int .i64 n)), (.map 1)]), (.map es)], [])))) else (At T_sign 2 (endO' 2 rs_sign G) ic_sign 0 29 [(0, (.ptr 0 0)), (6, (.pv (.agg [(.str [(43 : UInt8)]), (.str [(45 : UInt8)])]))), (7, (.pv (.int .i64 1)))] [(.obj (.box [(.pv (.str s)), (.pv (.int .i64 n)), (.map 1)])), (.obj (.map es))]))) : At T_sign 2 (endO' 2 rs_sign G) ic_sign 0 29 [(0, .ptr 0 0), (6, .pv (.agg [(.str [(43 : UInt8)]), (.str [(45 : UInt8)])])), (7, .pv (.int .i64 0))] [.obj (.box [.pv (.str s), .pv (.int .i64 n), .map 1]), .obj (.map es)] := At.to (.lit (.lit (.lit (.lit (.abs (Bool) (fun YY => AV.pv (enc YY)) (.ask (.req (.lit (.lit (.nil)))) (.lit (.nil)))))))) h (by kernel_rfl)
theorem sign_h0b {G : AV × List AObj × List AObj -> Prop} (s : List UInt8) (n : Int) (es : List (PV × PV))  (h : ∃ y0 : Bool, AV.pv (valT (fun (x : Str × Str × Unit) => List.isPrefixOf (Str.s x.2.1) (Str.s x.1)) [(.str s), (.str [(45 : UInt8)])]) = AV.pv (enc y0) ∧ (if (y0) = true then (decide (0 <= 1) && true && decide (Int.toNat 1 <= List.length s) && decide (List.length s <= List.length s)) = true ∧ (G (((.tup [(.pv (.int .i64 (-1))), (.pv (.bool true))]), ([(.box [(.pv (.str (List.drop (Int.toNat 1) (List.take (List.length s) s)))), (.pv (.int .i64 n)), (.map 1)]), (.map es)], [])))) else (At T_sign 2 (endO' 2 rs_sign G) ic_sign 0 29 [(0, (.ptr 0 0)), (6, (.pv (.agg [(.str [(43 : UInt8)]), (.str [(45 : UInt8)])]))), (7, (.pv (.int .i64 2)))] [(.obj (.box [(.pv (.str s)), (.pv (.int .i64 n)), (.map 1)])), (.obj (.map es))]))) : At T_sign 2 (endO' 2 rs_sign G) ic_sign 0 29 [(0, .ptr 0 0), (6, .pv (.agg [(.str [(43 : UInt8)]), (.str [(45 : UInt8)])])), (7, .pv (.int .i64 1))] [.obj (.box [.pv (.str s), .pv (.int .i64 n), .map 1]), .obj (.map es)] := At.to (.lit (.lit (.lit (.lit (.abs (Bool) (fun YY => AV.pv (enc YY)) (.ask (.req (.lit (.lit (.nil)))) (.lit (.nil)))))))) h (by kernel_rfl)
theorem sign_h0c {G : AV × List AObj × List AObj -> Prop} (s : List UInt8) (n : Int) (es : List (PV × PV))  (h : G (((.tup [(.pv (.int .i64 1)), (.pv (.bool false))]), ([(.box [(.pv (.str s)), (.pv (.int .i64 n)), (.map 1)]), (.map es)], [])))) : At T_sign 2 (endO' 2 rs_sign G) ic_sign 0 29 [(0, .ptr 0 0), (6, .pv (.agg [(.str [(43 : UInt8)]), (.str [(45 : UInt8)])])), (7, .pv (.int .i64 2))] [.obj (.box [.pv (.str s), .pv (.int .i64 n), .map 1]), .obj (.map es)] := At.to (.lit (.lit (.nil))) h (by kernel_rfl)
end Go.Pl

namespace Go.Pl
open Go.RowKit
open Enc (enc dec is)
open EncL (encL decL isL)
theorem u8_eq (c : UInt8) (k : Nat) (hk : k < 256) : (((c.toNat : Int)) == (k : Int)) = (c == UInt8.ofNat k) := by
 rw [Bool.eq_iff_iff, beq_iff_eq, beq_iff_eq]
 constructor
 ·intro h
  have h : c.toNat = k := by omega
  rw [<- h, UInt8.ofNat_toNat]
 ·intro h
  rw [h, UInt8.toNat_ofNat_of_lt' (by show k < 2 ^ 8; omega)]
theorem letter_run : ∀ a : UInt8 × Unit, true = true -> Gets T_letter 0 (endP' rs_letter (Fits (letB a.1))) ic_letter [] (st0 nt_letter (encL a)) := by
 rintro ⟨c, ⟨⟩⟩ -
 have e95 : (((c.toNat : Int)) == 95) = (c == 95) := u8_eq c 95 (by omega)
 have el := low_eq c
 refine letter_s c ?_
 show if decide ((c.toNat : Int) ≥ 97) = true then (if decide ((c.toNat : Int) <= 122) = true then Fits (letB c) (.bool true) else if ((c.toNat : Int) == 95) = true then Fits (letB c) (.bool true) else _) else if ((c.toNat : Int) == 95) = true then Fits (letB c) (.bool true) else _
 rw [e95]
 have rest : lowB c = false -> (if (c == 95) = true then Fits (letB c) (.bool true) else preT (fun _ : UInt8 × Unit => true) [enc c] = true ∧ ∃ y0 : Bool, AV.pv (valT (fun x : UInt8 × Unit => digB x.1) [enc c]) = AV.pv (enc y0) ∧ Fits (letB c) (.bool y0)) := by
  intro hl
  refine iteB (fun h => fitB ?_) fun h => ⟨pre_enc (c, ()) rfl rfl, ex_enc (c, ()) rfl (fitB ?_)⟩
  ·unfold letB; rw [h]; simp
  ·unfold letB; rw [hl, h]; rfl
 refine iteD (fun h1 => iteD (fun h2 => fitB ?_) fun h2 => rest ?_) fun h1 => rest ?_
 ·have : lowB c = true := by rw [el]; simp [h1, h2]
  unfold letB; rw [this]; rfl
 ·rw [el]; simp [h2]
 ·rw [el]; simp [h1]
theorem spaces_run : ∀ args os, pre_rd0 args os = true -> Gets T_spaces os.length (endO' os.length rs_spaces fun r => r = val_spaces args os) ic_spaces [] (st0O nt_spaces args os) := by
 intro args os h
 unfold pre_rd0 at h
 split at h
 ·rename_i s n es
  exact spaces_s s n es (ex_enc ((⟨s⟩ : Str), (⟨[32]⟩ : Str), ()) rfl rfl)
 ·cases h
theorem take_at (p : UInt8 -> Bool) : ∀ (s : List UInt8) (i : Nat), i <= s.length -> (∀ j (h : j < s.length), j < i -> p s[j] = true) -> (∀ h : i < s.length, p s[i] = false) -> s.takeWhile p = s.take i ∧ s.dropWhile p = s.drop i
 | [], i, hi, h1, h2 => by
  have : i = 0 := by simpa using hi
  subst this
  exact ⟨rfl, rfl⟩
 | c :: s, 0, hi, h1, h2 => by
  have := h2 (by simp)
  simp only [List.getElem_cons_zero] at this
  simp [List.takeWhile_cons, List.dropWhile_cons, this]
 | c :: s, i + 1, hi, h1, h2 => by
  have hc : p c = true := h1 0 (by simp) (by omega)
  have ih := take_at p s i (by simpa using hi) (fun j h hj => h1 (j + 1) (by simp; omega) (by omega)) fun h => h2 (by simp; omega)
  simp [List.takeWhile_cons, List.dropWhile_cons, hc, ih.1, ih.2]
theorem getB {s : List UInt8} {i : Nat} (h : i < s.length) : ((UInt8.toNat (List.getD s (Int.toNat (i : Int)) (0 : UInt8)) : Nat) : Int) = ((s[i].toNat : Nat) : Int) := by simp [List.getD, h]
theorem taked_loop (s : List UInt8) (n : Int) (es : List (PV × PV)) (hs : s.length <= 1000000) : ∀ (m i : Nat), m + i = s.length -> (∀ j (h : j < s.length), j < i -> digB s[j] = true) ->
  At T_taked 2 (endO' 2 rs_taked fun r => r = (.pv (.str (s.takeWhile digB)), rdV (s.dropWhile digB) n es, [])) ic_taked 0 42 [(0, .ptr 0 0), (1, .pv (.fn 148)), (5, .pv (.int .i64 i))] [.obj (.box [.pv (.str s), .pv (.int .i64 n), .map 1]), .obj (.map es)] := by
 intro m
 induction m with
 | zero =>
  intro i hi h
  obtain ⟨e1, e2⟩ := take_at digB s i (by omega) h (fun hlt => by omega)
  refine taked_h0 s n es i (iteF (by simp; omega) ⟨by simp; omega, by simp; omega, ?_⟩)
  rw [e1, e2, Int.toNat_natCast, List.drop_zero, List.take_length]; rfl
 | succ m ih =>
  intro i hi h
  have hlt : i < s.length := by omega
  refine taked_h0 s n es i ?_
  rw [getB hlt]
  refine iteT (by simp; omega) ⟨by simp; omega, pre_enc (s[i], ()) rfl rfl, ex_enc (s[i], ()) rfl (iteB (fun hc => ?_) fun hc => ⟨by simp; omega, by simp; omega, ?_⟩)⟩
  ·rw [next (by omega)]
   exact ih (i + 1) (by omega) fun j hj hji => if e : j = i then by subst e; exact hc else h j hj (by omega)
  ·obtain ⟨e1, e2⟩ := take_at digB s i (by omega) h (fun _ => hc)
   rw [e1, e2, Int.toNat_natCast, List.drop_zero, List.take_length]; rfl
theorem takel_loop (s : List UInt8) (n : Int) (es : List (PV × PV)) (hs : s.length <= 1000000) : ∀ (m i : Nat), m + i = s.length -> (∀ j (h : j < s.length), j < i -> letB s[j] = true) ->
  At T_takel 2 (endO' 2 rs_takel fun r => r = (.pv (.str (s.takeWhile letB)), rdV (s.dropWhile letB) n es, [])) ic_takel 0 42 [(0, .ptr 0 0), (1, .pv (.fn 153)), (5, .pv (.int .i64 i))] [.obj (.box [.pv (.str s), .pv (.int .i64 n), .map 1]), .obj (.map es)] := by
 intro m
 induction m with
 | zero =>
  intro i hi h
  obtain ⟨e1, e2⟩ := take_at letB s i (by omega) h (fun hlt => by omega)
  refine takel_h0 s n es i (iteF (by simp; omega) ⟨by simp; omega, by simp; omega, ?_⟩)
  rw [e1, e2, Int.toNat_natCast, List.drop_zero, List.take_length]; rfl
 | succ m ih =>
  intro i hi h
  have hlt : i < s.length := by omega
  refine takel_h0 s n es i ?_
  rw [getB hlt]
  refine iteT (by simp; omega) ⟨by simp; omega, pre_enc (s[i], ()) rfl rfl, ex_enc (s[i], ()) rfl (iteB (fun hc => ?_) fun hc => ⟨by simp; omega, by simp; omega, ?_⟩)⟩
  ·rw [next (by omega)]
   exact ih (i + 1) (by omega) fun j hj hji => if e : j = i then by subst e; exact hc else h j hj (by omega)
  ·obtain ⟨e1, e2⟩ := take_at letB s i (by omega) h (fun _ => hc)
   rw [e1, e2, Int.toNat_natCast, List.drop_zero, List.take_length]; rfl
theorem taked_run : ∀ args os, pre_take 148 args os = true -> Gets T_taked os.length (endO' os.length rs_taked fun r => r = takeW digB args os) ic_taked [] (st0O nt_taked args os) := by
 intro args os h
 unfold pre_take at h
 split at h
 ·rename_i g s n es
  simp only [Bool.and_eq_true, beq_iff_eq, decide_eq_true_eq] at h
  obtain ⟨rfl, h⟩ := h
  exact taked_s s n es (taked_loop s n es h s.length 0 (by omega) fun j _ hj => by omega)
 ·cases h
theorem takel_run : ∀ args os, pre_take 153 args os = true -> Gets T_takel os.length (endO' os.length rs_takel fun r => r = takeW letB args os) ic_takel [] (st0O nt_takel args os) := by
 intro args os h
 unfold pre_take at h
 split at h
 ·rename_i g s n es
  simp only [Bool.and_eq_true, beq_iff_eq, decide_eq_true_eq] at h
  obtain ⟨rfl, h⟩ := h
  exact takel_s s n es (takel_loop s n es h s.length 0 (by omega) fun j _ hj => by omega)
 ·cases h
theorem take_len (p : UInt8 -> Bool) (s : List UInt8) : (s.takeWhile p).length <= s.length := (List.takeWhile_sublist p).length_le
theorem atoi_len {d : List UInt8} (h : (atoiE ⟨d⟩).2.b = false) : 0 < d.length := by
 cases d with
 | nil => exact absurd h (by decide)
 | cons c d => simp
theorem nil_er (e : Er) : isNilI (enc e) = !e.b := by obtain ⟨b⟩ := e; cases b <;> rfl
theorem ifc_er (e : Er) : isIfP (enc e) = true := by obtain ⟨b⟩ := e; cases b <;> rfl
theorem number_run : ∀ args os, pre_rd0 args os = true -> Gets T_number os.length (endO' os.length rs_number fun r => r = val_number args os) ic_number [] (st0O nt_number args os) := by
 intro args os h
 unfold pre_rd0 at h
 split at h
 ·rename_i s n es
  have h : s.length <= 1000000 := by simpa using h
  have hl := take_len digB s
  refine number_s s n es ⟨by simp [pre_take, h], ?_⟩
  have ev : val_number [.ptr 0 0] [.box [.pv (.str s), .pv (.int .i64 n), .map 1], .map es] = (.tup [.pv (.int .i64 (atoiE ⟨s.takeWhile digB⟩).1), .pv (.bool (numOk (s.takeWhile digB)))], rdV (s.dropWhile digB) n es, []) := rfl
  rw [ev]
  generalize s.takeWhile digB = d at hl ⊢
  refine ⟨pre_enc ((⟨d⟩ : Str), ()) rfl (decide_eq_true (by show d.length <= _; omega)), ex_enc ((⟨d⟩ : Str), ()) rfl ⟨?_, ?_⟩⟩
  ·show (isIfP (enc (atoiE ⟨d⟩).2) && true) = true
   rw [ifc_er]; rfl
  show if isNilI (enc (atoiE ⟨d⟩).2) = true then _ else _
  rw [nil_er]
  unfold numOk
  refine iteN (fun hb => ?_) fun hb => ?_
  ·have hp := atoi_len hb
   rw [hb]
   refine iteD (fun h7 => ?_) fun h7 => ?_
   ·have h7 : d.length <= 7 := by omega
    cases d with
    | nil => simp at hp
    | cons c r =>
     refine ⟨by simp, ?_⟩
     rw [decide_eq_true h7]
     have e : ((UInt8.toNat (List.getD (c :: r) (Int.toNat 0) (0 : UInt8)) : Int) != 48) = !(c == 48) := by
      show (!((c.toNat : Int) == ((48 : Nat) : Int))) = _
      rw [u8_eq c 48 (by omega)]; rfl
     rw [e]
     refine iteN (fun hc => ?_) fun hc => ?_
     ·have hc : c ≠ 48 := by simpa using hc
      simp [hc]; rfl
     ·have hc : c = 48 := by simpa using hc
      subst hc
      have e : ((48 :: r : List UInt8) == [48]) = (!false && true && (decide (((48 : UInt8) :: r).head? ≠ some 48) || decide ((48 :: r : List UInt8) = [48]))) := by cases r <;> simp
      rw [<- e]; rfl
   ·have h7 : ¬ d.length <= 7 := by omega
    simp [h7]; rfl
  ·rw [hb]; rfl
 ·cases h
theorem variable_run : ∀ args os, pre_rd0 args os = true -> Gets T_variable os.length (endO' os.length rs_variable fun r => r = val_variable args os) ic_variable [] (st0O nt_variable args os) := by
 intro args os h
 unfold pre_rd0 at h
 split at h
 ·rename_i s n es
  have h : s.length <= 1000000 := by simpa using h
  have hl := take_len letB s
  exact variable_s s n es ⟨by simp [pre_take, h], pre_enc ((⟨s.takeWhile letB⟩ : Str), ()) rfl (decide_eq_true (by show (s.takeWhile letB).length <= _; omega)), ex_enc ((⟨s.takeWhile letB⟩ : Str), ()) rfl rfl⟩
 ·cases h
theorem sign_run : ∀ args os, pre_rd0 args os = true -> Gets T_sign os.length (endO' os.length rs_sign fun r => r = val_sign args os) ic_sign [] (st0O nt_sign args os) := by
 intro args os h
 unfold pre_rd0 at h
 split at h
 ·rename_i s n es
  have h : s.length <= 1000000 := by simpa using h
  have ev : val_sign [.ptr 0 0] [.box [.pv (.str s), .pv (.int .i64 n), .map 1], .map es] = (.tup [.pv (.int .i64 (signR s).1.1), .pv (.bool (signR s).1.2)], rdV (signR s).2 n es, []) := rfl
  rw [ev]
  refine sign_s s n es (sign_h0a s n es (ex_enc ((⟨s⟩ : Str), (⟨[43]⟩ : Str), ()) rfl (iteB (fun h1 => ?_) fun h1 => sign_h0b s n es (ex_enc ((⟨s⟩ : Str), (⟨[45]⟩ : Str), ()) rfl (iteB (fun h2 => ?_) fun h2 => sign_h0c s n es ?_)))))
  ·cases s with
   | nil => cases h1
   | cons c r =>
    have hc : c = 43 := by
     have : ([43] : List UInt8).isPrefixOf (c :: r) = true := h1
     exact (by simpa [List.isPrefixOf] using this : 43 = c).symm
    subst hc
    refine ⟨by simp, ?_⟩
    simp [signR, rdV]
  ·cases s with
   | nil => cases h2
   | cons c r =>
    have hc : c = 45 := by
     have : ([45] : List UInt8).isPrefixOf (c :: r) = true := h2
     exact (by simpa [List.isPrefixOf] using this : 45 = c).symm
    subst hc
    refine ⟨by simp, ?_⟩
    simp [signR, rdV]
  ·cases s with
   | nil => rfl
   | cons c r =>
    have hc1 : c ≠ 43 := by
     intro e; subst e
     have : ([43] : List UInt8).isPrefixOf (43 :: r) = false := h1
     simp [List.isPrefixOf] at this
    have hc2 : c ≠ 45 := by
     intro e; subst e
     have : ([45] : List UInt8).isPrefixOf (45 :: r) = false := h2
     simp [List.isPrefixOf] at this
    simp [signR, hc1, hc2, rdV]
 ·cases h
end Go.Pl

namespace Go.Pl
open Go.RowKit
open Enc (enc dec is)
open EncL (encL decL isL)
theorem var_ok1 (v : List UInt8) (m : List (Str × Int)) : (lookOK (PV.str v) (mapP m) && Sh.fit (Sh.int .i64) (lookD (PV.str v) (PV.int .i64 0) (mapP m))) = true := by rw [lookOK_map, lookD_map]; rfl
theorem var_ok2 (v : List UInt8) (c : Int) (m : List (Str × Int)) : updOK (PV.str v) (PV.int .i64 c) (mapP m) = true := by
 unfold updOK
 rw [upd_map ⟨v⟩ c m]; rfl
theorem var_upd (v : List UInt8) (k : Int) (m : List (Str × Int)) : updL (PV.str v) (PV.int .i64 (IntKind.i64.wrap (PV.asInt (lookD (PV.str v) (PV.int .i64 0) (mapP m)) + k))) (mapP m) = mapP (updM ⟨v⟩ (w64 (atM m v + k)) m) := by
 rw [lookD_map]
 unfold updL
 rw [upd_map ⟨v⟩ _ m]; rfl
theorem rd0_ok (s : List UInt8) (n : Int) (m : List (Str × Int)) (h : s.length <= 1000000) : pre_rd0 [.ptr 0 0] [.box [.pv (.str s), .pv (.int .i64 n), .map 1], .map (mapP m)] = true := decide_eq_true h
theorem drop_len (p : UInt8 -> Bool) (s : List UInt8) : (s.dropWhile p).length <= s.length := (List.dropWhile_sublist p).length_le
theorem item_get (r : RdS) (g : Int) (hs : r.s.length <= 1000000) : Gets T_item 2 (endO' 2 rs_item fun z => z = itemV (itemR r g)) ic_item [] (st0O nt_item [.ptr 0 0, .pv (.int .i64 g)] [.box [.pv (.str r.s), .pv (.int .i64 r.n), .map 1], .map (mapP r.m)]) := by
 obtain ⟨s, n, m⟩ := r
 have hs : s.length <= 1000000 := hs
 show Gets T_item 2 (endO' 2 rs_item fun z => z = itemV (itemR ⟨s, n, m⟩ g)) _ _ _
 refine item_s s n m g (iteE (fun h0 => ?_) fun h0 => ?_)
 ·have h0 : s = [] := h0
  subst h0
  rfl
 have h0 : s ≠ [] := h0
 have hp : 0 < s.length := List.length_pos_iff.2 h0
 have hg : ((UInt8.toNat (List.getD s (Int.toNat 0) (0 : UInt8)) : Nat) : Int) = (((s.headD 0).toNat : Nat) : Int) := by
  cases s with
  | nil => exact absurd rfl h0
  | cons c s => rfl
 rw [hg]
 refine ⟨by simp; omega, pre_enc (s.headD 0, ()) rfl rfl, ex_enc (s.headD 0, ()) rfl (iteN (fun hd => ?_) fun hd => ?_)⟩
 ·have hd : digB (s.headD 0) = false := hd
  have e : itemR ⟨s, n, m⟩ g = varR s n m g := by
   unfold itemR
   rw [if_neg h0, if_pos hd]
  rw [e]
  refine ⟨rd0_ok s n m hs, var_ok1 _ _, var_ok2 _ _ _, ?_⟩
  rw [var_upd]; rfl
 have hd : digB (s.headD 0) = true := hd
 refine ⟨rd0_ok s n m hs, iteN (fun hn => ?_) fun hn => ?_⟩
 ·have e : itemR ⟨s, n, m⟩ g = (false, ⟨s.dropWhile digB, n, m⟩) := by
   unfold itemR
   rw [if_neg h0, if_neg (by rw [hd]; simp), if_pos hn]
  rw [e]; rfl
 have e : itemR ⟨s, n, m⟩ g = afterR (s.dropWhile digB) n m (w64 (g * (atoiE ⟨s.takeWhile digB⟩).1)) := by
  unfold itemR
  rw [if_neg h0, if_neg (by rw [hd]; simp), if_neg (by rw [hn]; simp)]
 rw [e]
 have hl := drop_len digB s
 generalize (atoiE ⟨s.takeWhile digB⟩).1 = k
 generalize s.dropWhile digB = t at hl ⊢
 have hb := drop_len (fun c => c == 32) t
 have hb : (blanksS t).length <= t.length := hb
 refine ex_enc ((⟨t⟩ : Str), (⟨[32]⟩ : Str), ()) rfl (ex_enc ((⟨blanksS t⟩ : Str), (⟨[42]⟩ : Str), ()) rfl (iteB (fun hx => ?_) fun hx => ?_))
 ·have hx : ([42] : List UInt8).isPrefixOf (blanksS t) = true := hx
  have ed : List.drop (Int.toNat 1) (List.take (List.length (blanksS t)) (blanksS t)) = (blanksS t).drop 1 := by rw [List.take_length]; rfl
  have hpos : 1 <= (blanksS t).length := by
   cases h : blanksS t with
   | nil => rw [h] at hx; cases hx
   | cons c r => simp
  have e2 : afterR t n m (w64 (g * k)) = varR (blanksS ((blanksS t).drop 1)) n m (w64 (g * k)) := by unfold afterR; rw [if_pos hx]
  rw [e2]
  show _ ∧ _
  refine ⟨by simp; omega, ?_⟩
  show pre_rd0 [.ptr 0 0] [.box [.pv (.str (List.drop (Int.toNat 1) (List.take (List.length (blanksS t)) (blanksS t)))), .pv (.int .i64 n), .map 1], .map (mapP m)] = true ∧ _
  rw [ed]
  have hl2 : ((blanksS t).drop 1).length <= 1000000 := by simp; omega
  generalize (blanksS t).drop 1 = u at hl2 ⊢
  have hl3 : (blanksS u).length <= u.length := drop_len (fun c => c == 32) u
  refine ⟨rd0_ok u n m hl2, rd0_ok (blanksS u) n m (by omega), var_ok1 _ _, var_ok2 _ _ _, ?_⟩
  rw [var_upd]; rfl
 ·have hx : ([42] : List UInt8).isPrefixOf (blanksS t) = false := hx
  have e2 : afterR t n m (w64 (g * k)) = if t = [] ∨ letB (t.headD 0) = false then (true, ⟨t, w64 (n + w64 (g * k)), m⟩) else varR t n m (w64 (g * k)) := by unfold afterR; rw [if_neg (by rw [hx]; simp)]
  rw [e2]
  refine iteE (fun ht => ?_) fun ht => ?_
  ·have ht : t = [] := ht
   rw [if_pos (.inl ht)]; rfl
  have ht : t ≠ [] := ht
  have htp : 0 < t.length := List.length_pos_iff.2 ht
  have hg2 : ((UInt8.toNat (List.getD t (Int.toNat 0) (0 : UInt8)) : Nat) : Int) = (((t.headD 0).toNat : Nat) : Int) := by
   cases t with
   | nil => exact absurd rfl ht
   | cons c s => rfl
  rw [hg2]
  refine ⟨by simp; omega, pre_enc (t.headD 0, ()) rfl rfl, ex_enc (t.headD 0, ()) rfl (iteN (fun hc => ?_) fun hc => ?_)⟩
  ·have hc : letB (t.headD 0) = false := hc
   rw [if_pos (.inr hc)]; rfl
  ·have hc : letB (t.headD 0) = true := hc
   rw [if_neg (by rintro (h | h); exact ht h; rw [hc] at h; cases h)]
   refine ⟨rd0_ok t n m (by omega), var_ok1 _ _, var_ok2 _ _ _, ?_⟩
   rw [var_upd]; rfl
theorem item_run : ∀ args os, pre_rd1 args os = true -> Gets T_item os.length (endO' os.length rs_item fun r => r = val_item args os) ic_item [] (st0O nt_item args os) := by
 intro args os h
 unfold pre_rd1 at h
 split at h
 ·rename_i g s n es
  simp only [Bool.and_eq_true, decide_eq_true_eq] at h
  obtain ⟨h1, h2⟩ := h
  obtain ⟨m, rfl⟩ := canM_eq h1
  have ev : val_item [.ptr 0 0, .pv (.int .i64 g)] [.box [.pv (.str s), .pv (.int .i64 n), .map 1], .map (mapP m)] = itemV (itemR ⟨s, n, m⟩ g) := by
   show itemV (itemR ⟨s, n, mapD (mapP m)⟩ g) = _
   rw [mapD_map]
  rw [ev]
  exact item_get ⟨s, n, m⟩ g h2
 ·cases h
end Go.Pl

namespace Go.Pl
open Go.RowKit
open Enc (enc dec is)
open EncL (encL decL isL)
theorem sign_len (u : List UInt8) : (signR u).2.length <= u.length ∧ ((signR u).1.2 = true -> (signR u).2.length < u.length) := by
 cases u with
 | nil => exact ⟨Nat.le_refl _, fun h => by cases h⟩
 | cons c r =>
  have e : signR (c :: r) = if c = 43 then ((1, true), r) else if c = 45 then ((-1, true), r) else ((1, false), c :: r) := rfl
  rw [e]
  by_cases h1 : c = 43
  ·rw [if_pos h1]; exact ⟨by simp, fun _ => by simp⟩
  ·rw [if_neg h1]
   by_cases h2 : c = 45
   ·rw [if_pos h2]; exact ⟨by simp, fun _ => by simp⟩
   ·rw [if_neg h2]; exact ⟨Nat.le_refl _, fun h => by cases h⟩
theorem blanks_len (s : List UInt8) : (blanksS s).length <= s.length := drop_len _ s
theorem upd_keys' (s : Str) (c : Int) (m : List (Str × Int)) (x : List UInt8) (h : x ∈ keysM (updM s c m)) : x ∈ keysM m ∨ x = s.s := by
 rcases upd_keys s c m with e | ⟨_, e⟩
 ·rw [e] at h; exact .inl h
 ·rw [e, List.mem_append] at h
  rcases h with h | h
  ·exact .inl h
  ·exact .inr (List.mem_singleton.1 h)
def okR (r : RdS) (z : Bool × RdS) : Prop := z.2.s.length <= r.s.length ∧ z.2.m.length <= r.m.length + 1 ∧ ∀ x ∈ keysM z.2.m, x ∈ keysM r.m ∨ x.length <= r.s.length
theorem var_okR (s : List UInt8) (n n' : Int) (m : List (Str × Int)) (k : Int) (t : List UInt8) (h : s.length <= t.length) : okR ⟨t, n', m⟩ (varR s n m k) := by
 have h1 := drop_len letB s
 have h2 := take_len letB s
 refine ⟨by show (s.dropWhile letB).length <= t.length; omega, upd_len _ _ _, fun x hx => ?_⟩
 rcases upd_keys' _ _ _ x hx with h | rfl
 ·exact .inl h
 ·exact .inr (by show (s.takeWhile letB).length <= t.length; omega)
theorem item_okR (r : RdS) (g : Int) : okR r (itemR r g) := by
 obtain ⟨s, n, m⟩ := r
 have self : ∀ (b : Bool) (t : List UInt8) (n' : Int), t.length <= s.length -> okR ⟨s, n, m⟩ (b, ⟨t, n', m⟩) := fun b t n' h => ⟨h, Nat.le_succ _, fun x hx => .inl hx⟩
 have h1 := drop_len digB s
 unfold itemR
 split
 ·exact self _ _ _ (Nat.le_refl _)
 ·split
  ·exact var_okR _ _ _ _ _ _ (Nat.le_refl _)
  ·split
   ·exact self _ _ _ h1
   ·simp only
    generalize s.dropWhile digB = t at h1 ⊢
    have hb := blanks_len t
    unfold afterR
    split
    ·have hc := blanks_len ((blanksS t).drop 1)
     have hd : ((blanksS t).drop 1).length <= (blanksS t).length := by rw [List.length_drop]; omega
     exact var_okR _ _ _ _ _ _ (by omega)
    ·split
     ·exact self _ _ _ h1
     ·exact var_okR _ _ _ _ _ _ h1
theorem rd1_ok (s : List UInt8) (n : Int) (m : List (Str × Int)) (g : Int) (h : s.length <= 1000000) : pre_rd1 [.ptr 0 0, .pv (.int .i64 g)] [.box [.pv (.str s), .pv (.int .i64 n), .map 1], .map (mapP m)] = true := by
 show (canM (mapP m) && decide (s.length <= 1000000)) = true
 rw [canM_map, decide_eq_true h]; rfl
theorem parse_loop (s : List UInt8) : ∀ (f : Nat) (t : List UInt8) (n : Int) (m : List (Str × Int)) (g : Int), t.length < f -> t.length + m.length <= 500000 -> (∀ x ∈ keysM m, x.length <= 500000) ->
  At T_parse 0 (endP' rs_parse (Fits (parseR f t n m g))) ic_parse 0 51 [(2, .ptr 0 0), (4, .ptr 1 0), (5, .fn 79 [.ptr 1 0] []), (6, .pv (.int .i64 g))] [.obj (.box [.pv (.int .i64 0), .pv (.sl 0 true [])]), .obj (.box [.pv (.str t), .pv (.int .i64 n), .map 2]), .obj (.map (mapP m))] := by
 intro f
 induction f with
 | zero => intro t n m g h; omega
 | succ f ih =>
  intro t n m g hf hl hk
  have hbl := blanks_len t
  refine parse_h0 s t n m g ⟨rd0_ok t n m (by omega), rd1_ok _ n m g (by omega), ?_⟩
  rw [mapD_map]
  have ho := item_okR ⟨blanksS t, n, m⟩ g
  unfold parseR
  generalize itemR ⟨blanksS t, n, m⟩ g = z at ho ⊢
  obtain ⟨b, u, n', m'⟩ := z
  obtain ⟨o1, o2, o3⟩ := ho
  have o1 : u.length <= (blanksS t).length := o1
  have o2 : m'.length <= m.length + 1 := o2
  have o3 : ∀ x ∈ keysM m', x ∈ keysM m ∨ x.length <= (blanksS t).length := o3
  have hk' : ∀ x ∈ keysM m', x.length <= 500000 := fun x hx => (o3 x hx).elim (hk x) fun h => by omega
  have hub := blanks_len u
  simp only
  generalize hV : (if b = false then ((⟨0, []⟩, 6) : Lin × Int) else if blanksS u = [] then resM n' m' else if (signR (blanksS u)).1.2 = false then (⟨0, []⟩, 6) else parseR f (signR (blanksS u)).2 n' m' (signR (blanksS u)).1.1) = V
  refine iteN (fun hb => ?_) fun hb => ?_
  ·have hv : V = (⟨0, []⟩, 6) := by rw [<- hV, if_pos hb]
   rw [hv]
   exact ⟨rfl, rfl⟩
  have hb' : ¬ b = false := by
   have : b = true := hb
   rw [this]; simp
  rw [if_neg hb'] at hV
  refine ⟨rd0_ok u n' m' (by omega), iteE (fun he => ?_) fun he => ?_⟩
  ·have hv : V = resM n' m' := by rw [<- hV, if_pos he]
   rw [hv, mapD_map]
   refine ⟨?_, fits_of (x := resM n' m') rfl⟩
   show (canM (mapP m') && mapSm (mapD (mapP m'))) = true
   rw [canM_map, mapD_map]
   simp only [mapSm, Bool.true_and, Bool.and_eq_true, decide_eq_true_eq, List.all_eq_true]
   exact ⟨by omega, fun x hx => by have := hk' x hx; omega⟩
  ·rw [if_neg he] at hV
   obtain ⟨s1, s2⟩ := sign_len (blanksS u)
   refine ⟨rd0_ok (blanksS u) n' m' (by omega), iteN (fun hs => ?_) fun hs => ?_⟩
   ·have hv : V = (⟨0, []⟩, 6) := by rw [<- hV, if_pos hs]
    rw [hv]
    exact ⟨rfl, rfl⟩
   ·have hs' : ¬ (signR (blanksS u)).1.2 = false := by
     have : (signR (blanksS u)).1.2 = true := hs
     rw [this]; simp
    rw [if_neg hs'] at hV
    have := s2 hs
    rw [<- hV]
    exact ih (signR (blanksS u)).2 n' m' (signR (blanksS u)).1.1 (by omega) (by omega) hk'
theorem parse_run : ∀ a : Str × Unit, decide (a.1.s.length <= 400000) = true -> Gets T_parse 0 (endP' rs_parse (Fits (parseL a.1.s))) ic_parse [] (st0 nt_parse (encL a)) := by
 rintro ⟨⟨s⟩, ⟨⟩⟩ h
 have h : s.length <= 400000 := by simpa using h
 have h1 := blanks_len s
 have h2 := (sign_len (blanksS s)).1
 refine parse_s s ⟨rd0_ok s 0 [] (by omega), rd0_ok (blanksS s) 0 [] (by omega), ?_⟩
 exact parse_loop s (s.length + 1) (signR (blanksS s)).2 0 [] (signR (blanksS s)).1.1 (by omega) (by simp; omega) (fun x hx => by cases hx)
end Go.Pl

namespace Go.Pl
open Go.RowKit
open Enc (enc dec is)
open EncL (encL decL isL)
set_option maxRecDepth 100000
def ic_lorder : IC := (.seq (.reg [⟨(some 4), (.mv (.c (.int .i64 0))), 0, none⟩] none) (.seq (.block 0 (.seq (.reg [⟨(some 6), (.mv (.t 0)), 0, none⟩, ⟨(some 7), (.mv (.t 1)), 0, none⟩, ⟨(some 8), (.bin .num .lss (.t 6) (.t 7)), 0, none⟩, ⟨(some 5), (.mv (.t 8)), 0, none⟩] none) (.cond (.t 5) (.seq (.reg [⟨(some 4), (.mv (.c (.int .i64 (-1)))), 0, none⟩] none) .ret) (.seq (.reg [⟨(some 10), (.mv (.t 0)), 0, none⟩, ⟨(some 11), (.mv (.t 1)), 0, none⟩, ⟨(some 12), (.bin .num .gtr (.t 10) (.t 11)), 0, none⟩, ⟨(some 9), (.mv (.t 12)), 0, none⟩] none) (.cond (.t 9) (.seq (.reg [⟨(some 4), (.mv (.c (.int .i64 1))), 0, none⟩] none) .ret) .skip))))) (.seq (.reg [⟨(some 4), (.mv (.c (.int .i64 0))), 0, none⟩] none) .ret)))
def rs_lorder : List IRes := [(.tmp 4)]
abbrev nt_lorder : Nat := 13
def T_lorder : Tab := tab []
theorem lorder_s {G : PV -> Prop} (a b : Int) (h : if (decide (a < b)) = true then G ((.int .i64 (-1))) else (if (decide (a > b)) = true then G ((.int .i64 1)) else (G ((.int .i64 0))))) : Gets T_lorder 0 (endP' rs_lorder G) ic_lorder [] (st0 13 [enc a, enc b]) := Gets.tp (.lit (.ask (.nil) (.lit (.ask (.nil) (.nil))))) h (by kernel_rfl)
def ic_lcmp1 : IC := (.seq (.reg [⟨(some 2), (.box 2 (.t 0)), 0, none⟩, ⟨(some 3), (.box 2 (.t 1)), 1, none⟩, ⟨(some 4), (.mv (.c (.int .i64 0))), 2, none⟩] none) (.seq (.seq (.reg [⟨(some 6), (.faddr 0 (.t 2)), 0, none⟩, ⟨(some 7), (.load false [.str] (.t 6)), 0, none⟩, ⟨(some 8), (.faddr 0 (.t 3)), 0, none⟩, ⟨(some 9), (.load false [.str] (.t 8)), 0, none⟩, ⟨(some 10), (.call (.c (.fn 212)) [(.t 7), (.t 9)]), 0, none⟩, ⟨(some 5), (.mv (.t 10)), 2, none⟩] none) (.seq (.reg [⟨(some 11), (.mv (.t 5)), 0, none⟩, ⟨(some 12), (.bin .num .neq (.t 11) (.c (.int .i64 0))), 0, none⟩] none) (.cond (.t 12) (.seq (.reg [⟨(some 13), (.mv (.t 5)), 0, none⟩, ⟨(some 4), (.mv (.t 13)), 0, none⟩] none) .ret) .skip))) (.seq (.reg [⟨(some 14), (.faddr 1 (.t 2)), 0, none⟩, ⟨(some 15), (.load false [(.int .i64)] (.t 14)), 0, none⟩, ⟨(some 16), (.faddr 1 (.t 3)), 0, none⟩, ⟨(some 17), (.load false [(.int .i64)] (.t 16)), 0, none⟩, ⟨(some 18), (.call (.c (.fn 213)) [(.t 15), (.t 17)]), 0, none⟩, ⟨(some 4), (.mv (.t 18)), 2, none⟩] none) .ret)))
def rs_lcmp1 : List IRes := [(.tmp 4)]
abbrev nt_lcmp1 : Nat := 19
def T_lcmp1 : Tab := tab [(212, .pure (preT (fun _ : Str × Str × Unit => true)) (valT (fun x : Str × Str × Unit => Lib.compareBytes x.1.s x.2.1.s))), (213, .pure (preT (fun _ : Int × Int × Unit => true)) (valT (fun x : Int × Int × Unit => cmpK x.1 x.2.1)))]
theorem lcmp1_s {G : PV -> Prop} (x y : Coef) (h : ∃ y0 : Int, AV.pv (valT (fun (x : Str × Str × Unit) => Lib.compareBytes (Str.s x.1) (Str.s x.2.1)) [(.str (Str.s (Coef.v x))), (.str (Str.s (Coef.v y)))]) = AV.pv (enc y0) ∧ (if (y0 != 0) = true then G ((.int .i64 y0)) else (∃ y1 : Int, AV.pv (valT (fun (x : Int × Int × Unit) => cmpK x.1 x.2.1) [(.int .i64 (Coef.c x)), (.int .i64 (Coef.c y))]) = AV.pv (enc y1) ∧ (G ((.int .i64 y1)))))) : Gets T_lcmp1 0 (endP' rs_lcmp1 G) ic_lcmp1 [] (st0 19 [enc x, enc y]) := Gets.tp (.lit (.abs (Int) (fun YY => AV.pv (enc YY)) (.lit (.ask (.nil) (.lit (.abs (Int) (fun YY => AV.pv (enc YY)) (.nil))))))) h (by kernel_rfl)
def ic_lcmpf : IC := (.seq (.reg [⟨(some 6), (.mv (.c (.int .i64 0))), 0, none⟩] none) (.seq (.seq (.reg [⟨(some 11), (.mv (.t 0)), 0, none⟩, ⟨(some 12), (.len 1 (.t 11)), 0, none⟩, ⟨(some 13), (.mv (.c (.int .i64 0))), 0, none⟩] none) (.block 0 (.loop [13, 12, 11, 1, 2, 0] (.seq (.reg [⟨(some 14), (.bin .num .lss (.t 13) (.t 12)), 0, none⟩] none) (.seq (.cond (.t 14) .skip (.exit 0)) (.seq (.block 1 (.seq (.reg [⟨(some 15), (.mv (.t 13)), 0, none⟩, ⟨(some 16), (.iaddr 2 (.t 11) (.t 13)), 0, none⟩, ⟨(some 17), (.load true [.str, (.int .i64)] (.t 16)), 0, none⟩, ⟨(some 8), (.alloc (.agg [(.str []), (.int .i64 0)])), 0, none⟩, ⟨(some 7), (.mv (.t 15)), 1, none⟩, ⟨none, (.store 2 (.t 8) (.t 17)), 1, none⟩] none) (.seq (.seq (.reg [⟨(some 18), (.mv (.t 7)), 0, none⟩, ⟨(some 19), (.mv (.t 1)), 0, none⟩, ⟨(some 20), (.len 1 (.t 19)), 0, none⟩, ⟨(some 21), (.bin .num .geq (.t 18) (.t 20)), 0, none⟩] none) (.cond (.t 21) (.seq (.reg [⟨(some 6), (.mv (.c (.int .i64 1))), 0, none⟩] none) .ret) .skip)) (.seq (.reg [⟨(some 22), (.mv (.t 1)), 0, none⟩, ⟨(some 23), (.mv (.t 7)), 0, none⟩, ⟨(some 24), (.iaddr 2 (.t 22) (.t 23)), 0, none⟩, ⟨(some 25), (.load true [.str, (.int .i64)] (.t 24)), 0, none⟩, ⟨(some 9), (.alloc (.agg [(.str []), (.int .i64 0)])), 0, none⟩, ⟨none, (.store 2 (.t 9) (.t 25)), 1, none⟩] none) (.seq (.reg [⟨(some 26), (.mv (.t 2)), 0, none⟩, ⟨(some 27), (.load true [.str, (.int .i64)] (.t 8)), 0, none⟩, ⟨(some 28), (.load true [.str, (.int .i64)] (.t 9)), 0, none⟩, ⟨(some 29), (.call (.t 26) [(.t 27), (.t 28)]), 0, none⟩, ⟨(some 10), (.mv (.t 29)), 2, none⟩] none) (.seq (.reg [⟨(some 30), (.mv (.t 10)), 0, none⟩, ⟨(some 31), (.bin .num .neq (.t 30) (.c (.int .i64 0))), 0, none⟩] none) (.cond (.t 31) (.seq (.reg [⟨(some 32), (.mv (.t 10)), 0, none⟩, ⟨(some 6), (.mv (.t 32)), 0, none⟩] none) .ret) .skip))))))) (.reg [⟨(some 33), (.bin .num .add (.t 13) (.c (.int .i64 1))), 0, none⟩, ⟨(some 13), (.mv (.t 33)), 0, none⟩] none))))))) (.seq (.seq (.reg [⟨(some 34), (.mv (.t 0)), 0, none⟩, ⟨(some 35), (.len 1 (.t 34)), 0, none⟩, ⟨(some 36), (.mv (.t 1)), 0, none⟩, ⟨(some 37), (.len 1 (.t 36)), 0, none⟩, ⟨(some 38), (.bin .num .lss (.t 35) (.t 37)), 0, none⟩] none) (.cond (.t 38) (.seq (.reg [⟨(some 6), (.mv (.c (.int .i64 (-1)))), 0, none⟩] none) .ret) .skip)) (.seq (.reg [⟨(some 6), (.mv (.c (.int .i64 0))), 0, none⟩] none) .ret))))
def rs_lcmpf : List IRes := [(.tmp 6)]
abbrev nt_lcmpf : Nat := 39
def T_lcmpf : Tab := tab [(211, .pure (preT (fun _ : Coef × Coef × Unit => true)) (valT (fun x : Coef × Coef × Unit => cmpC x.1 x.2.1)))]
theorem lcmpf_s {G : PV -> Prop} (a b : List Coef) (h : At T_lcmpf 0 (endP' rs_lcmpf G) ic_lcmpf 0 39 [(0, (.pv (.sl 2 false (List.map enc a)))), (1, (.pv (.sl 2 false (List.map enc b)))), (2, (.pv (.fn 211))), (11, (.pv (.sl 2 false (List.map enc a)))), (12, (.pv (.int .i64 (↑(List.length (List.map enc a)) : Int)))), (13, (.pv (.int .i64 0)))] []) : Gets T_lcmpf 0 (endP' rs_lcmpf G) ic_lcmpf [] (st0 39 [enc a, enc b, .fn 211]) := Gets.tp (.nil) h (by kernel_rfl)
theorem lcmpf_h0 {G : PV -> Prop} (a b : List Coef) (i : Int) (h : if (decide (i < (↑(List.length a) : Int))) = true then (decide (0 <= i) && decide (Int.toNat i < List.length (List.map enc a)) && Enc.sz Coef == 2) = true ∧ (∃ y0 : Coef, AV.pv (PV.rptr (PV.cells (List.getD (List.map enc a) (Int.toNat i) default))) = AV.pv (PV.rptr (PV.cells ((enc) y0))) ∧ (if (decide (i ≥ (↑(List.length (List.map enc b)) : Int))) = true then G ((.int .i64 1)) else ((decide (0 <= i) && decide (Int.toNat i < List.length (List.map enc b)) && Enc.sz Coef == 2) = true ∧ (∃ y1 : Coef, AV.pv (PV.rptr (PV.cells (List.getD (List.map enc b) (Int.toNat i) default))) = AV.pv (PV.rptr (PV.cells ((enc) y1))) ∧ (∃ y2 : Int, AV.pv (valT (fun (x : Coef × Coef × Unit) => cmpC x.1 x.2.1) [(.agg [(.str (PV.asStr (List.getD (PV.cells (enc y0)) 0 default))), (.int .i64 (PV.asInt (List.getD (PV.cells (enc y0)) (0 + 1) default)))]), (.agg [(.str (PV.asStr (List.getD (PV.cells (enc y1)) 0 default))), (.int .i64 (PV.asInt (List.getD (PV.cells (enc y1)) (0 + 1) default)))])]) = AV.pv (enc y2) ∧ (if (y2 != 0) = true then G ((.int .i64 y2)) else (At T_lcmpf 0 (endP' rs_lcmpf G) ic_lcmpf 0 39 [(0, (.pv (.sl 2 false (List.map enc a)))), (1, (.pv (.sl 2 false (List.map enc b)))), (2, (.pv (.fn 211))), (11, (.pv (.sl 2 false (List.map enc a)))), (12, (.pv (.int .i64 (↑(List.length a) : Int)))), (13, (.pv (.int .i64 (IntKind.wrap IntKind.i64 (i + 1)))))] []))))))) else (if (decide ((↑(List.length (List.map enc a)) : Int) < (↑(List.length (List.map enc b)) : Int))) = true then G ((.int .i64 (-1))) else (G ((.int .i64 0))))) : At T_lcmpf 0 (endP' rs_lcmpf G) ic_lcmpf 0 39 [(0, .pv (enc a)), (1, .pv (enc b)), (2, .pv (.fn 211)), (11, .pv (enc a)), (12, .pv (.int .i64 a.length)), (13, .pv (.int .i64 i))] [] := At.tp (.lit (.ask (.req (.abs (Coef) (fun YY => AV.pv (PV.rptr (PV.cells ((enc) YY)))) (.lit (.lit (.ask (.nil) (.req (.abs (Coef) (fun YY => AV.pv (PV.rptr (PV.cells ((enc) YY)))) (.lit (.lit (.abs (Int) (fun YY => AV.pv (enc YY)) (.lit (.ask (.nil) (.lit (.nil)))))))))))))) (.lit (.ask (.nil) (.nil))))) h (by kernel_rfl)
def ic_lcmp : IC := (.seq (.reg [⟨(some 2), (.box 2 (.t 0)), 0, none⟩, ⟨(some 3), (.box 2 (.t 1)), 1, none⟩, ⟨(some 4), (.mv (.c (.int .i64 0))), 2, none⟩] none) (.seq (.reg [⟨(some 6), (.faddr 1 (.t 2)), 0, none⟩, ⟨(some 7), (.load false [(.sl 2)] (.t 6)), 0, none⟩, ⟨(some 8), (.faddr 1 (.t 3)), 0, none⟩, ⟨(some 9), (.load false [(.sl 2)] (.t 8)), 0, none⟩, ⟨(some 10), (.call (.c (.fn 210)) [(.t 7), (.t 9), (.c (.fn 211))]), 0, none⟩, ⟨(some 5), (.mv (.t 10)), 2, none⟩] none) (.seq (.seq (.reg [⟨(some 11), (.mv (.t 5)), 0, none⟩, ⟨(some 12), (.bin .num .neq (.t 11) (.c (.int .i64 0))), 0, none⟩] none) (.cond (.t 12) (.seq (.reg [⟨(some 13), (.mv (.t 5)), 0, none⟩, ⟨(some 4), (.mv (.t 13)), 0, none⟩] none) .ret) .skip)) (.seq (.reg [⟨(some 14), (.faddr 0 (.t 2)), 0, none⟩, ⟨(some 15), (.load false [(.int .i64)] (.t 14)), 0, none⟩, ⟨(some 16), (.faddr 0 (.t 3)), 0, none⟩, ⟨(some 17), (.load false [(.int .i64)] (.t 16)), 0, none⟩, ⟨(some 18), (.call (.c (.fn 213)) [(.t 15), (.t 17)]), 0, none⟩, ⟨(some 4), (.mv (.t 18)), 2, none⟩] none) .ret))))
def rs_lcmp : List IRes := [(.tmp 4)]
abbrev nt_lcmp : Nat := 19
def T_lcmp : Tab := tab [(210, .pure (preT (fun x : List Coef × List Coef × FnV 211 × Unit => decide (x.1.length <= 9223372036854775807) && decide (x.2.1.length <= 9223372036854775807))) (valT (fun x : List Coef × List Coef × FnV 211 × Unit => cmpCs x.1 x.2.1))), (213, .pure (preT (fun _ : Int × Int × Unit => true)) (valT (fun x : Int × Int × Unit => cmpK x.1 x.2.1)))]
theorem lcmp_s {G : PV -> Prop} (a b : Lin) (h : (Go.Pl.preT (fun (x : List Coef × List Coef × FnV 211 × Unit) => decide (List.length x.1 <= 9223372036854775807) && decide (List.length x.2.1 <= 9223372036854775807)) [(.sl 2 false (List.map enc a.t)), (.sl 2 false (List.map enc b.t)), (.fn 211)]) = true ∧ (∃ y0 : Int, AV.pv (valT (fun (x : List Coef × List Coef × FnV 211 × Unit) => cmpCs x.1 x.2.1) [(.sl 2 false (List.map enc a.t)), (.sl 2 false (List.map enc b.t)), (.fn 211)]) = AV.pv (enc y0) ∧ (if (y0 != 0) = true then G ((.int .i64 y0)) else (∃ y1 : Int, AV.pv (valT (fun (x : Int × Int × Unit) => cmpK x.1 x.2.1) [(.int .i64 a.k), (.int .i64 b.k)]) = AV.pv (enc y1) ∧ (G ((.int .i64 y1))))))) : Gets T_lcmp 0 (endP' rs_lcmp G) ic_lcmp [] (st0 19 [enc a, enc b]) := Gets.tp (.req (.abs (Int) (fun YY => AV.pv (enc YY)) (.lit (.ask (.nil) (.lit (.abs (Int) (fun YY => AV.pv (enc YY)) (.nil))))))) h (by kernel_rfl)
def ic_leq : IC := (.seq (.reg [⟨(some 2), (.box 2 (.t 0)), 0, none⟩, ⟨(some 3), (.box 2 (.t 1)), 1, none⟩, ⟨(some 4), (.mv (.c (.bool false))), 2, none⟩] none) (.seq (.reg [⟨(some 5), (.load true [(.int .i64), (.sl 2)] (.t 2)), 0, none⟩, ⟨(some 6), (.load true [(.int .i64), (.sl 2)] (.t 3)), 0, none⟩, ⟨(some 7), (.call (.c (.fn 145)) [(.t 5), (.t 6)]), 0, none⟩, ⟨(some 8), (.bin .num .eql (.t 7) (.c (.int .i64 0))), 2, none⟩, ⟨(some 4), (.mv (.t 8)), 2, none⟩] none) .ret))
def rs_leq : List IRes := [(.tmp 4)]
abbrev nt_leq : Nat := 9
def T_leq : Tab := tab [(145, .pure (preT (fun x : Lin × Lin × Unit => linOk x.1 && linOk x.2.1)) (valT (fun x : Lin × Lin × Unit => cmpLin x.1 x.2.1)))]
theorem leq_s {G : PV -> Prop} (a b : Lin) (h : (Go.Pl.preT (fun (x : Lin × Lin × Unit) => linOk x.1 && linOk x.2.1) [(.agg [(.int .i64 a.k), (.sl 2 false (List.map enc a.t))]), (.agg [(.int .i64 b.k), (.sl 2 false (List.map enc b.t))])]) = true ∧ (∃ y0 : Int, AV.pv (valT (fun (x : Lin × Lin × Unit) => cmpLin x.1 x.2.1) [(.agg [(.int .i64 a.k), (.sl 2 false (List.map enc a.t))]), (.agg [(.int .i64 b.k), (.sl 2 false (List.map enc b.t))])]) = AV.pv (enc y0) ∧ (G ((.bool (y0 == 0)))))) : Gets T_leq 0 (endP' rs_leq G) ic_leq [] (st0 9 [enc a, enc b]) := Gets.tp (.req (.abs (Int) (fun YY => AV.pv (enc YY)) (.lit (.nil)))) h (by kernel_rfl)
def ic_part : IC := (.seq (.reg [⟨(some 6), (.mv (.t 0)), 0, none⟩, ⟨(some 7), (.call (.c (.fn 76)) [(.t 6)]), 0, none⟩, ⟨(some 5), (.mv (.t 7)), 2, none⟩] none) (.seq (.seq (.reg [⟨(some 8), (.mv (.t 1)), 0, none⟩, ⟨(some 9), (.bin .num .neq (.t 8) (.c (.str []))), 0, none⟩, ⟨(some 10), (.mv (.t 9)), 0, none⟩, ⟨(some 11), (.mv (.t 0)), 0, (some (10, true))⟩, ⟨(some 12), (.bin .num .eql (.t 11) (.c (.int .i64 1))), 0, (some (10, true))⟩, ⟨(some 13), (.mv (.t 12)), 0, (some (10, true))⟩, ⟨(some 14), (.mv (.t 0)), 0, (some (13, false))⟩, ⟨(some 15), (.bin .num .eql (.t 14) (.c (.int .i64 (-1)))), 0, (some (13, false))⟩, ⟨(some 16), (.pick (.t 13) (.c (.bool true)) (.t 15)), 0, (some (10, true))⟩, ⟨(some 17), (.pick (.t 10) (.t 16) (.c (.bool false))), 0, none⟩] none) (.cond (.t 17) (.reg [⟨(some 18), (.mv (.t 5)), 0, none⟩, ⟨(some 19), (.call (.c (.fn 77)) [(.t 18), (.c (.str [49]))]), 0, none⟩, ⟨(some 5), (.mv (.t 19)), 2, none⟩] none) .skip)) (.seq (.seq (.reg [⟨(some 20), (.mv (.t 0)), 0, none⟩, ⟨(some 21), (.bin .num .geq (.t 20) (.c (.int .i64 0))), 0, none⟩, ⟨(some 22), (.mv (.t 21)), 0, none⟩, ⟨(some 23), (.load false [.str] (.t 2)), 0, (some (22, true))⟩, ⟨(some 24), (.bin .num .neq (.t 23) (.c (.str []))), 0, (some (22, true))⟩, ⟨(some 25), (.pick (.t 22) (.t 24) (.c (.bool false))), 0, none⟩] none) (.cond (.t 25) (.reg [⟨(some 26), (.load false [.str] (.t 2)), 0, none⟩, ⟨(some 27), (.bin .num .add (.t 26) (.c (.str [43]))), 0, none⟩, ⟨none, (.store 1 (.t 2) (.t 27)), 0, none⟩] none) .skip)) (.reg [⟨(some 28), (.load false [.str] (.t 2)), 0, none⟩, ⟨(some 29), (.mv (.t 5)), 0, none⟩, ⟨(some 30), (.mv (.t 1)), 0, none⟩, ⟨(some 31), (.bin .num .add (.t 29) (.t 30)), 0, none⟩, ⟨(some 32), (.bin .num .add (.t 28) (.t 31)), 0, none⟩, ⟨none, (.store 1 (.t 2) (.t 32)), 0, none⟩] none))))
def rs_part : List IRes := []
abbrev nt_part : Nat := 33
def T_part : Tab := tab [(76, .pure (preT (fun x : Int × Unit => decide (-9223372036854775808 <= x.1) && decide (x.1 <= 9223372036854775807))) (valT (fun x : Int × Unit => itoaS x.1))), (77, .pure (preT (fun x : Str × Str × Unit => decide (x.1.s.length <= 1000000))) (valT (fun x : Str × Str × Unit => (⟨Lib.trimSuffix x.1.s x.2.1.s⟩ : Str))))]
theorem part_s {G : AV × List AObj × List AObj -> Prop} (n : Int) (s o : List UInt8) (h : (Go.Pl.preT (fun (x : Int × Unit) => decide ((-9223372036854775808 : Int) <= x.1) && decide (x.1 <= 9223372036854775807)) [(.int .i64 n)]) = true ∧ (∃ y0 : Str, AV.pv (valT (fun (x : Int × Unit) => itoaS x.1) [(.int .i64 n)]) = AV.pv (enc y0) ∧ (if (!s == []) = true then if (n == 1) = true then (Go.Pl.preT (fun (x : Str × Str × Unit) => decide (List.length (Str.s x.1) <= 1000000)) [(.str (Str.s y0)), (.str [(49 : UInt8)])]) = true ∧ (∃ y1 : Str, AV.pv (valT (fun (x : Str × Str × Unit) => Str.mk (Lib.trimSuffix (Str.s x.1) (Str.s x.2.1))) [(.str (Str.s y0)), (.str [(49 : UInt8)])]) = AV.pv (enc y1) ∧ (if (decide (n ≥ 0)) = true then if (!o == []) = true then (decide (List.length o + List.length [(43 : UInt8)] <= 1099511627776)) = true ∧ ((decide (List.length (Str.s y1) + List.length s <= 1099511627776)) = true ∧ ((decide (List.length (o ++ [(43 : UInt8)]) + List.length (Str.s y1 ++ s) <= 1099511627776)) = true ∧ (G (((.tup []), ([(.box [(.pv (.str (o ++ [(43 : UInt8)] ++ (Str.s y1 ++ s))))])], [])))))) else ((decide (List.length (Str.s y1) + List.length s <= 1099511627776)) = true ∧ ((decide (List.length o + List.length (Str.s y1 ++ s) <= 1099511627776)) = true ∧ (G (((.tup []), ([(.box [(.pv (.str (o ++ (Str.s y1 ++ s))))])], [])))))) else ((decide (List.length (Str.s y1) + List.length s <= 1099511627776)) = true ∧ ((decide (List.length o + List.length (Str.s y1 ++ s) <= 1099511627776)) = true ∧ (G (((.tup []), ([(.box [(.pv (.str (o ++ (Str.s y1 ++ s))))])], [])))))))) else (if (n == (-1 : Int)) = true then (Go.Pl.preT (fun (x : Str × Str × Unit) => decide (List.length (Str.s x.1) <= 1000000)) [(.str (Str.s y0)), (.str [(49 : UInt8)])]) = true ∧ (∃ y2 : Str, AV.pv (valT (fun (x : Str × Str × Unit) => Str.mk (Lib.trimSuffix (Str.s x.1) (Str.s x.2.1))) [(.str (Str.s y0)), (.str [(49 : UInt8)])]) = AV.pv (enc y2) ∧ (if (decide (n ≥ 0)) = true then if (!o == []) = true then (decide (List.length o + List.length [(43 : UInt8)] <= 1099511627776)) = true ∧ ((decide (List.length (Str.s y2) + List.length s <= 1099511627776)) = true ∧ ((decide (List.length (o ++ [(43 : UInt8)]) + List.length (Str.s y2 ++ s) <= 1099511627776)) = true ∧ (G (((.tup []), ([(.box [(.pv (.str (o ++ [(43 : UInt8)] ++ (Str.s y2 ++ s))))])], [])))))) else ((decide (List.length (Str.s y2) + List.length s <= 1099511627776)) = true ∧ ((decide (List.length o + List.length (Str.s y2 ++ s) <= 1099511627776)) = true ∧ (G (((.tup []), ([(.box [(.pv (.str (o ++ (Str.s y2 ++ s))))])], [])))))) else ((decide (List.length (Str.s y2) + List.length s <= 1099511627776)) = true ∧ ((decide (List.length o + List.length (Str.s y2 ++ s) <= 1099511627776)) = true ∧ (G (((.tup []), ([(.box [(.pv (.str (o ++ (Str.s y2 ++ s))))])], [])))))))) else (if (decide (n ≥ 0)) = true then if (!o == []) = true then (decide (List.length o + List.length [(43 : UInt8)] <= 1099511627776)) = true ∧ ((decide (List.length (Str.s y0) + List.length s <= 1099511627776)) = true ∧ ((decide (List.length (o ++ [(43 : UInt8)]) + List.length (Str.s y0 ++ s) <= 1099511627776)) = true ∧ (G (((.tup []), ([(.box [(.pv (.str (o ++ [(43 : UInt8)] ++ (Str.s y0 ++ s))))])], [])))))) else ((decide (List.length (Str.s y0) + List.length s <= 1099511627776)) = true ∧ ((decide (List.length o + List.length (Str.s y0 ++ s) <= 1099511627776)) = true ∧ (G (((.tup []), ([(.box [(.pv (.str (o ++ (Str.s y0 ++ s))))])], [])))))) else ((decide (List.length (Str.s y0) + List.length s <= 1099511627776)) = true ∧ ((decide (List.length o + List.length (Str.s y0 ++ s) <= 1099511627776)) = true ∧ (G (((.tup []), ([(.box [(.pv (.str (o ++ (Str.s y0 ++ s))))])], [])))))))) else (if (decide (n ≥ 0)) = true then if (!o == []) = true then (decide (List.length o + List.length [(43 : UInt8)] <= 1099511627776)) = true ∧ ((decide (List.length (Str.s y0) + List.length s <= 1099511627776)) = true ∧ ((decide (List.length (o ++ [(43 : UInt8)]) + List.length (Str.s y0 ++ s) <= 1099511627776)) = true ∧ (G (((.tup []), ([(.box [(.pv (.str (o ++ [(43 : UInt8)] ++ (Str.s y0 ++ s))))])], [])))))) else ((decide (List.length (Str.s y0) + List.length s <= 1099511627776)) = true ∧ ((decide (List.length o + List.length (Str.s y0 ++ s) <= 1099511627776)) = true ∧ (G (((.tup []), ([(.box [(.pv (.str (o ++ (Str.s y0 ++ s))))])], [])))))) else ((decide (List.length (Str.s y0) + List.length s <= 1099511627776)) = true ∧ ((decide (List.length o + List.length (Str.s y0 ++ s) <= 1099511627776)) = true ∧ (G (((.tup []), ([(.box [(.pv (.str (o ++ (Str.s y0 ++ s))))])], [])))))))))) : Gets T_part 1 (endO' 1 rs_part G) ic_part [] (st0O 33 [.pv (enc n), .pv (.str s), .ptr 0 0] [.box [.pv (.str o)]]) := Gets.to (.req (.abs (Str) (fun YY => AV.pv (enc YY)) (.lit (.ask (.lit (.lit (.lit (.ask (.lit (.lit (.lit (.lit (.lit (.req (.abs (Str) (fun YY => AV.pv (enc YY)) (.lit (.ask (.lit (.lit (.lit (.ask (.req (.req (.req (.nil)))) (.req (.req (.nil))))))) (.lit (.lit (.lit (.req (.req (.nil))))))))))))))) (.lit (.lit (.lit (.lit (.lit (.ask (.req (.abs (Str) (fun YY => AV.pv (enc YY)) (.lit (.ask (.lit (.lit (.lit (.ask (.req (.req (.req (.nil)))) (.req (.req (.nil))))))) (.lit (.lit (.lit (.req (.req (.nil)))))))))) (.lit (.ask (.lit (.lit (.lit (.ask (.req (.req (.req (.nil)))) (.req (.req (.nil))))))) (.lit (.lit (.lit (.req (.req (.nil)))))))))))))))))) (.lit (.lit (.lit (.lit (.lit (.lit (.ask (.lit (.lit (.lit (.ask (.req (.req (.req (.nil)))) (.req (.req (.nil))))))) (.lit (.lit (.lit (.req (.req (.nil))))))))))))))))) h (by kernel_rfl)
def ic_lprint : IC := (.seq (.reg [⟨(some 1), (.box 2 (.t 0)), 0, none⟩, ⟨(some 2), (.mv (.c (.str []))), 1, none⟩] none) (.seq (.seq (.reg [⟨(some 7), (.load true [(.int .i64), (.sl 2)] (.t 1)), 0, none⟩, ⟨(some 8), (.call (.c (.fn 73)) [(.t 7)]), 0, none⟩, ⟨(some 9), (.un .not (.t 8)), 2, none⟩] none) (.cond (.t 9) (.seq (.reg [⟨(some 2), (.mv (.c (.str []))), 0, none⟩] none) .ret) .skip)) (.seq (.reg [⟨(some 3), (.alloc (.str [])), 0, none⟩, ⟨none, (.store 1 (.t 3) (.c (.str []))), 1, none⟩] none) (.seq (.reg [⟨(some 10), (.mkfn 75 [] [(.t 3)]), 0, none⟩, ⟨(some 4), (.mv (.t 10)), 0, none⟩] none) (.seq (.seq (.reg [⟨(some 11), (.faddr 1 (.t 1)), 0, none⟩, ⟨(some 12), (.load false [(.sl 2)] (.t 11)), 0, none⟩, ⟨(some 13), (.len 1 (.t 12)), 0, none⟩, ⟨(some 14), (.mv (.c (.int .i64 0))), 0, none⟩] none) (.block 0 (.loop [14, 13, 12, 4, 1, 3] (.seq (.reg [⟨(some 15), (.bin .num .lss (.t 14) (.t 13)), 0, none⟩] none) (.seq (.cond (.t 15) .skip (.exit 0)) (.seq (.block 1 (.seq (.reg [⟨(some 16), (.iaddr 2 (.t 12) (.t 14)), 0, none⟩, ⟨(some 17), (.load true [.str, (.int .i64)] (.t 16)), 0, none⟩, ⟨(some 6), (.alloc (.agg [(.str []), (.int .i64 0)])), 0, none⟩, ⟨none, (.store 2 (.t 6) (.t 17)), 1, none⟩] none) (.reg [⟨(some 18), (.mv (.t 4)), 0, none⟩, ⟨(some 19), (.faddr 1 (.t 6)), 0, none⟩, ⟨(some 20), (.load false [(.int .i64)] (.t 19)), 0, none⟩, ⟨(some 21), (.faddr 0 (.t 6)), 0, none⟩, ⟨(some 22), (.load false [.str] (.t 21)), 0, none⟩, ⟨(some 23), (.call (.t 18) [(.t 20), (.t 22)]), 0, none⟩] none))) (.reg [⟨(some 24), (.bin .num .add (.t 14) (.c (.int .i64 1))), 0, none⟩, ⟨(some 14), (.mv (.t 24)), 0, none⟩] none))))))) (.seq (.seq (.reg [⟨(some 25), (.faddr 0 (.t 1)), 0, none⟩, ⟨(some 26), (.load false [(.int .i64)] (.t 25)), 0, none⟩, ⟨(some 27), (.bin .num .neq (.t 26) (.c (.int .i64 0))), 0, none⟩, ⟨(some 28), (.mv (.t 27)), 0, none⟩, ⟨(some 29), (.load false [.str] (.t 3)), 0, (some (28, false))⟩, ⟨(some 30), (.bin .num .eql (.t 29) (.c (.str []))), 0, (some (28, false))⟩, ⟨(some 31), (.pick (.t 28) (.c (.bool true)) (.t 30)), 0, none⟩] none) (.cond (.t 31) (.reg [⟨(some 32), (.mv (.t 4)), 0, none⟩, ⟨(some 33), (.faddr 0 (.t 1)), 0, none⟩, ⟨(some 34), (.load false [(.int .i64)] (.t 33)), 0, none⟩, ⟨(some 35), (.call (.t 32) [(.t 34), (.c (.str []))]), 0, none⟩] none) .skip)) (.seq (.reg [⟨(some 36), (.load false [.str] (.t 3)), 0, none⟩, ⟨(some 2), (.mv (.t 36)), 0, none⟩] none) .ret)))))))
def rs_lprint : List IRes := [(.tmp 2)]
abbrev nt_lprint : Nat := 37
def T_lprint : Tab := tab [(73, .pure (preT (fun x : Lin × Unit => linSm x.1)) (valT (fun x : Lin × Unit => validL x.1))), (75, .own pre_part val_part)]
theorem lprint_s {G : PV -> Prop} (l : Lin) (h : (Go.Pl.preT (fun (x : Lin × Unit) => linSm x.1) [(.agg [(.int .i64 l.k), (.sl 2 false (List.map enc l.t))])]) = true ∧ (∃ y0 : Bool, AV.pv (valT (fun (x : Lin × Unit) => validL x.1) [(.agg [(.int .i64 l.k), (.sl 2 false (List.map enc l.t))])]) = AV.pv (enc y0) ∧ (if (!y0) = true then G ((.str [])) else (At T_lprint 0 (endP' rs_lprint G) ic_lprint 0 37 [(1, (.ptr 0 0)), (3, (.ptr 1 0)), (4, (.fn 75 [] [(.ptr 1 0)])), (12, (.pv (.sl 2 false (List.map enc l.t)))), (13, (.pv (.int .i64 (↑(List.length (List.map enc l.t)) : Int)))), (14, (.pv (.int .i64 0)))] [(.obj (.box [(.pv (.int .i64 l.k)), (.pv (.sl 2 false (List.map enc l.t)))])), (.obj (.box [(.pv (.str []))]))])))) : Gets T_lprint 0 (endP' rs_lprint G) ic_lprint [] (st0 37 [enc l]) := Gets.tp (.req (.abs (Bool) (fun YY => AV.pv (enc YY)) (.ask (.nil) (.nil)))) h (by kernel_rfl)
theorem lprint_h0 {G : PV -> Prop} (l : Lin) (o : List UInt8) (i : Int) (h : if (decide (i < (↑(List.length l.t) : Int))) = true then (decide (0 <= i) && decide (Int.toNat i < List.length (List.map enc l.t)) && Enc.sz Coef == 2) = true ∧ (∃ y0 : Coef, AV.pv (PV.rptr (PV.cells (List.getD (List.map enc l.t) (Int.toNat i) default))) = AV.pv (PV.rptr (PV.cells ((enc) y0))) ∧ ((pre_part [(.pv (.int .i64 (PV.asInt (List.getD (PV.cells (enc y0)) (0 + 1) default)))), (.pv (.str (PV.asStr (List.getD (PV.cells (enc y0)) 0 default)))), (.ptr 0 0)] [(.box [(.pv (.str o))])]) = true ∧ (At T_lprint 0 (endP' rs_lprint G) ic_lprint 0 37 [(1, (.ptr 0 0)), (3, (.ptr 1 0)), (4, (.fn 75 [] [(.ptr 1 0)])), (12, (.pv (.sl 2 false (List.map enc l.t)))), (13, (.pv (.int .i64 (↑(List.length l.t) : Int)))), (14, (.pv (.int .i64 (IntKind.wrap IntKind.i64 (i + 1)))))] [(.obj (.box [(.pv (.int .i64 l.k)), (.pv (.sl 2 false (List.map enc l.t)))])), (.obj (.box [(.pv (.str (partS o (PV.asInt (List.getD (PV.cells (enc y0)) (0 + 1) default)) (PV.asStr (List.getD (PV.cells (enc y0)) 0 default)))))]))]))) else (if (l.k != 0) = true then (pre_part [(.pv (.int .i64 l.k)), (.pv (.str [])), (.ptr 0 0)] [(.box [(.pv (.str o))])]) = true ∧ (G ((.str (partS o l.k [])))) else (if (o == []) = true then (pre_part [(.pv (.int .i64 l.k)), (.pv (.str [])), (.ptr 0 0)] [(.box [(.pv (.str o))])]) = true ∧ (G ((.str (partS o l.k [])))) else (G ((.str o)))))) : At T_lprint 0 (endP' rs_lprint G) ic_lprint 0 37 [(1, .ptr 0 0), (3, .ptr 1 0), (4, .fn 75 [] [.ptr 1 0]), (12, .pv (enc l.t)), (13, .pv (.int .i64 l.t.length)), (14, .pv (.int .i64 i))] [.obj (.box [.pv (.int .i64 l.k), .pv (enc l.t)]), .obj (.box [.pv (.str o)])] := At.tp (.lit (.ask (.req (.abs (Coef) (fun YY => AV.pv (PV.rptr (PV.cells ((enc) YY)))) (.lit (.req (.keep (.lit (.nil))))))) (.lit (.ask (.lit (.lit (.lit (.req (.keep (.nil)))))) (.lit (.lit (.lit (.ask (.req (.keep (.nil))) (.nil))))))))) h (by kernel_rfl)
end Go.Pl

namespace Go.Pl
open Go.RowKit
open Enc (enc dec is)
open EncL (encL decL isL)
theorem lorder_run : ∀ a : Int × Int × Unit, true = true -> Gets T_lorder 0 (endP' rs_lorder (Fits (cmpK a.1 a.2.1))) ic_lorder [] (st0 nt_lorder (encL a)) := by
 rintro ⟨a, b, ⟨⟩⟩ -
 show Gets T_lorder 0 (endP' rs_lorder (Fits (cmpK a b))) _ _ _
 refine lorder_s a b (iteD (fun h => ?_) fun h => iteD (fun k => ?_) fun k => ?_)
 ·exact fitI (by simp [cmpK, h])
 ·exact fitI (by simp [cmpK, h, k])
 ·exact fitI (by simp [cmpK, h, k])
theorem lcmp1_run : ∀ a : Coef × Coef × Unit, true = true -> Gets T_lcmp1 0 (endP' rs_lcmp1 (Fits (cmpC a.1 a.2.1))) ic_lcmp1 [] (st0 nt_lcmp1 (encL a)) := by
 rintro ⟨x, y, ⟨⟩⟩ -
 show Gets T_lcmp1 0 (endP' rs_lcmp1 (Fits (cmpC x y))) _ _ _
 unfold cmpC
 refine lcmp1_s x y (ex_enc (x.v, y.v, ()) rfl (iteC (fun h => ?_) fun h => ex_enc (x.c, y.c, ()) rfl ?_))
 ·have h : Lib.compareBytes x.v.s y.v.s ≠ 0 := by simpa using h
  rw [if_pos h]
  exact fitI rfl
 ·have h : ¬ Lib.compareBytes x.v.s y.v.s ≠ 0 := by simpa using h
  rw [if_neg h]
  exact fitI rfl
theorem coef_arg (t : Coef) : (PV.agg [.str (PV.asStr (List.getD (PV.cells (enc t)) 0 default)), .int .i64 (PV.asInt (List.getD (PV.cells (enc t)) (0 + 1) default))]) = enc t := rfl
theorem lcmpf_loop (a b : List Coef) (ha : a.length <= 9223372036854775807) : ∀ (m i : Nat), m + i = a.length -> i <= b.length ->
  At T_lcmpf 0 (endP' rs_lcmpf (Fits (cmpCs (a.drop i) (b.drop i)))) ic_lcmpf 0 39 [(0, .pv (enc a)), (1, .pv (enc b)), (2, .pv (.fn 211)), (11, .pv (enc a)), (12, .pv (.int .i64 a.length)), (13, .pv (.int .i64 i))] [] := by
 intro m
 induction m with
 | zero =>
  intro i hi hb
  have ea : a.drop i = [] := List.drop_of_length_le (by omega)
  rw [ea]
  refine lcmpf_h0 a b i (iteF (lt_no' (by omega)) (iteD (fun h => ?_) fun h => ?_))
  ·have h : a.length < b.length := by simpa using h
   have : b.drop i = b[i] :: b.drop (i + 1) := List.drop_eq_getElem_cons (by omega)
   rw [this]
   exact fitI (by rw [cmpCs])
  ·have h : ¬ a.length < b.length := by simpa using h
   have : b.drop i = [] := List.drop_of_length_le (by omega)
   rw [this]
   exact fitI (by rw [cmpCs])
 | succ m ih =>
  intro i hi hb
  have hlt : i < a.length := by omega
  have ea : a.drop i = a[i] :: a.drop (i + 1) := List.drop_eq_getElem_cons hlt
  rw [ea]
  refine lcmpf_h0 a b i (iteT (lt_ok' hlt) ⟨idx_ok hlt rfl, el_ex hlt (iteD (fun h => ?_) fun h => ?_)⟩)
  ·have h : b.length <= i := by
    have : (i : Int) ≥ ((List.map (enc : Coef -> PV) b).length : Int) := h
    rw [List.length_map] at this
    omega
   have : b.drop i = [] := List.drop_of_length_le h
   rw [this]
   exact fitI (by rw [cmpCs])
  ·have h : i < b.length := by
    have : ¬ (i : Int) ≥ ((List.map (enc : Coef -> PV) b).length : Int) := h
    rw [List.length_map] at this
    omega
   have eb : b.drop i = b[i] :: b.drop (i + 1) := List.drop_eq_getElem_cons h
   rw [eb]
   refine ⟨idx_ok h rfl, el_ex h ?_⟩
   rw [coef_arg, coef_arg]
   refine ex_enc (a[i], b[i], ()) rfl (iteC (fun hc => ?_) fun hc => ?_)
   ·have hc : cmpC a[i] b[i] ≠ 0 := by simpa using hc
    exact fitI (by rw [cmpCs, if_pos hc])
   ·have hc : ¬ cmpC a[i] b[i] ≠ 0 := by simpa using hc
    have e : cmpCs (a[i] :: a.drop (i + 1)) (b[i] :: b.drop (i + 1)) = cmpCs (a.drop (i + 1)) (b.drop (i + 1)) := by rw [cmpCs, if_neg hc]
    rw [e, next (by omega)]
    exact ih (i + 1) (by omega) (by omega)
theorem lcmpf_run : ∀ a : List Coef × List Coef × FnV 211 × Unit, (decide (a.1.length <= 9223372036854775807) && decide (a.2.1.length <= 9223372036854775807)) = true -> Gets T_lcmpf 0 (endP' rs_lcmpf (Fits (cmpCs a.1 a.2.1))) ic_lcmpf [] (st0 nt_lcmpf (encL a)) := by
 rintro ⟨a, b, g, ⟨⟩⟩ h
 simp only [Bool.and_eq_true, decide_eq_true_eq] at h
 refine lcmpf_s a b ?_
 rw [List.length_map]
 exact lcmpf_loop a b h.1 a.length 0 (by omega) (by omega)
theorem lcmp_run : ∀ a : Lin × Lin × Unit, (linOk a.1 && linOk a.2.1) = true -> Gets T_lcmp 0 (endP' rs_lcmp (Fits (cmpLin a.1 a.2.1))) ic_lcmp [] (st0 nt_lcmp (encL a)) := by
 rintro ⟨a, b, ⟨⟩⟩ h
 show Gets T_lcmp 0 (endP' rs_lcmp (Fits (cmpLin a b))) _ _ _
 unfold cmpLin
 refine lcmp_s a b ⟨pre_enc (a.t, b.t, ({} : FnV 211), ()) rfl h, ex_enc (a.t, b.t, ({} : FnV 211), ()) rfl (iteC (fun hc => ?_) fun hc => ex_enc (a.k, b.k, ()) rfl ?_)⟩
 ·have hc : cmpCs a.t b.t ≠ 0 := by simpa using hc
  rw [if_pos hc]
  exact fitI rfl
 ·have hc : ¬ cmpCs a.t b.t ≠ 0 := by simpa using hc
  rw [if_neg hc]
  exact fitI rfl
theorem leq_run : ∀ a : Lin × Lin × Unit, (linOk a.1 && linOk a.2.1) = true -> Gets T_leq 0 (endP' rs_leq (Fits (cmpLin a.1 a.2.1 == 0))) ic_leq [] (st0 nt_leq (encL a)) := by
 rintro ⟨a, b, ⟨⟩⟩ h
 exact leq_s a b ⟨pre_enc (a, b, ()) rfl h, ex_enc (a, b, ()) rfl (fitB rfl)⟩
theorem trim_len (s p : List UInt8) : (Lib.trimSuffix s p).length <= s.length := by
 unfold Lib.trimSuffix
 split
 ·rw [List.length_take]; omega
 ·exact Nat.le_refl _
theorem part_run : ∀ args os, pre_part args os = true -> Gets T_part os.length (endO' os.length rs_part fun r => r = val_part args os) ic_part [] (st0O nt_part args os) := by
 intro args os h
 unfold pre_part at h
 split at h
 ·rename_i n s o
  simp only [Bool.and_eq_true, decide_eq_true_eq] at h
  obtain ⟨⟨⟨n1, n2⟩, hs⟩, ho⟩ := h
  have ev : val_part [.pv (.int .i64 n), .pv (.str s), .ptr 0 0] [.box [.pv (.str o)]] = (.tup [], [.box [.pv (.str (partS o n s))]], []) := rfl
  rw [ev]
  have hi := Lib.itoa_length_le n n1 n2
  have hi : (itoaS n).s.length <= 21 := hi
  have ht := trim_len (itoaS n).s [49]
  have fin : ∀ (b : Bool) (x : List UInt8), x.length <= 21 -> (decide (s ≠ []) && (decide (n = 1) || decide (n = -1))) = b -> x = (if b then Lib.trimSuffix (itoaS n).s [49] else (itoaS n).s) ->
    (if decide (n ≥ 0) = true then (if (!o == []) = true then (decide (o.length + List.length [(43 : UInt8)] <= 1099511627776) = true ∧ (decide (x.length + s.length <= 1099511627776) = true ∧ (decide (List.length (o ++ [(43 : UInt8)]) + List.length (x ++ s) <= 1099511627776) = true ∧ ((AV.tup [], [AObj.box [.pv (.str (o ++ [(43 : UInt8)] ++ (x ++ s)))]], ([] : List AObj)) = (.tup [], [.box [.pv (.str (partS o n s))]], [])))))
     else (decide (x.length + s.length <= 1099511627776) = true ∧ (decide (o.length + List.length (x ++ s) <= 1099511627776) = true ∧ ((AV.tup [], [AObj.box [.pv (.str (o ++ (x ++ s)))]], ([] : List AObj)) = (.tup [], [.box [.pv (.str (partS o n s))]], [])))))
    else (decide (x.length + s.length <= 1099511627776) = true ∧ (decide (o.length + List.length (x ++ s) <= 1099511627776) = true ∧ ((AV.tup [], [AObj.box [.pv (.str (o ++ (x ++ s)))]], ([] : List AObj)) = (.tup [], [.box [.pv (.str (partS o n s))]], []))))) := by
   intro b x hx hb hxe
   have hp : ∀ o2 : List UInt8, o2 = (if decide (n ≥ 0) && decide (o ≠ []) then o ++ [43] else o) -> partS o n s = o2 ++ (x ++ s) := by
    intro o2 h2
    unfold partS
    rw [hb, <- h2, <- hxe]
   refine iteD (fun h0 => iteC (fun h1 => ?_) fun h1 => ?_) fun h0 => ?_
   ·have h1 : o ≠ [] := by simpa using h1
    refine ⟨by simp; omega, by simp; omega, by simp; omega, ?_⟩
    rw [hp (o ++ [43]) (by simp [h0, h1])]
   ·have h1 : o = [] := by simpa using h1
    refine ⟨by simp; omega, by simp; omega, ?_⟩
    rw [hp o (by simp [h1])]
   ·refine ⟨by simp; omega, by simp; omega, ?_⟩
    rw [hp o (by simp [h0])]
  refine part_s n s o ⟨pre_enc (n, ()) rfl (by show (decide (-9223372036854775808 <= n) && decide (n <= 9223372036854775807)) = true; rw [decide_eq_true n1, decide_eq_true n2]; rfl), ex_enc (n, ()) rfl (iteC (fun h1 => ?_) fun h1 => ?_)⟩
  ·have h1 : s ≠ [] := by simpa using h1
   have htr : decide ((itoaS n).s.length <= 1000000) = true := decide_eq_true (by omega)
   refine iteE (fun h2 => ?_) fun h2 => iteE (fun h3 => ?_) fun h3 => ?_
   ·have h2 : n = 1 := h2
    exact ⟨pre_enc (itoaS n, (⟨[49]⟩ : Str), ()) rfl htr, ex_enc (itoaS n, (⟨[49]⟩ : Str), ()) rfl (fin true _ (by show (Lib.trimSuffix (itoaS n).s [49]).length <= 21; omega) (by simp [h1, h2]) rfl)⟩
   ·have h3 : n = -1 := h3
    exact ⟨pre_enc (itoaS n, (⟨[49]⟩ : Str), ()) rfl htr, ex_enc (itoaS n, (⟨[49]⟩ : Str), ()) rfl (fin true _ (by show (Lib.trimSuffix (itoaS n).s [49]).length <= 21; omega) (by simp [h1, h3]) rfl)⟩
   ·have h2 : n ≠ 1 := h2
    have h3 : n ≠ -1 := h3
    exact fin false _ hi (by simp [h2, h3]) rfl
  ·have h1 : s = [] := by simpa using h1
   exact fin false _ hi (by simp [h1]) rfl
 ·cases h
theorem part_len (o : List UInt8) (n : Int) (s : List UInt8) (n1 : -9223372036854775808 <= n) (n2 : n <= 9223372036854775807) : (partS o n s).length <= o.length + 1 + 21 + s.length := by
 have hi := Lib.itoa_length_le n n1 n2
 have hi : (itoaS n).s.length <= 21 := hi
 have ht := trim_len (itoaS n).s [49]
 unfold partS
 split <;> split <;> simp <;> omega
theorem lprint_loop (l : Lin) (hv : validL l = true) : ∀ (m i : Nat) (o : List UInt8), m + i = l.t.length -> o.length <= 100 * i ->
  At T_lprint 0 (endP' rs_lprint (Fits (⟨if decide (l.k ≠ 0) || decide ((l.t.drop i).foldl (fun o t => partS o t.c t.v.s) o = []) then partS ((l.t.drop i).foldl (fun o t => partS o t.c t.v.s) o) l.k [] else (l.t.drop i).foldl (fun o t => partS o t.c t.v.s) o⟩ : Str))) ic_lprint 0 37 [(1, .ptr 0 0), (3, .ptr 1 0), (4, .fn 75 [] [.ptr 1 0]), (12, .pv (enc l.t)), (13, .pv (.int .i64 l.t.length)), (14, .pv (.int .i64 i))] [.obj (.box [.pv (.int .i64 l.k), .pv (enc l.t)]), .obj (.box [.pv (.str o)])] := by
 have hlen := valid_len hv
 have hk := valid_k hv
 intro m
 induction m with
 | zero =>
  intro i o hi ho
  have ed : l.t.drop i = [] := List.drop_of_length_le (by omega)
  rw [ed, List.foldl_nil]
  have hp : pre_part [.pv (.int .i64 l.k), .pv (.str []), .ptr 0 0] [.box [.pv (.str o)]] = true := by
   simp only [pre_part, Bool.and_eq_true, decide_eq_true_eq, List.length_nil]
   exact ⟨⟨⟨by omega, by omega⟩, by omega⟩, by omega⟩
  refine lprint_h0 l o i (iteF (lt_no' (by omega)) (iteC (fun h1 => ⟨hp, ?_⟩) fun h1 => iteE (fun h2 => ⟨hp, ?_⟩) fun h2 => ?_))
  ·have h1 : l.k ≠ 0 := by simpa using h1
   rw [if_pos (by simp [h1])]
   exact ⟨rfl, rfl⟩
  ·have h2 : o = [] := h2
   rw [if_pos (by simp [h2])]
   exact ⟨rfl, rfl⟩
  ·have h1 : l.k = 0 := by simpa using h1
   have h2 : o ≠ [] := h2
   rw [if_neg (by simp [h1, h2])]
   exact ⟨rfl, rfl⟩
 | succ m ih =>
  intro i o hi ho
  have hlt : i < l.t.length := by omega
  have ed : l.t.drop i = l.t[i] :: l.t.drop (i + 1) := List.drop_eq_getElem_cons hlt
  rw [ed, List.foldl_cons]
  obtain ⟨c0, c1, c2, c3⟩ := valid_coef hv (List.getElem_mem hlt)
  have hn := name_len c0
  have hpl := part_len o l.t[i].c l.t[i].v.s (by omega) (by omega)
  refine lprint_h0 l o i (iteT (lt_ok' hlt) ⟨idx_ok hlt rfl, el_ex hlt ⟨?_, ?_⟩⟩)
  ·have hp : pre_part [.pv (.int .i64 l.t[i].c), .pv (.str l.t[i].v.s), .ptr 0 0] [.box [.pv (.str o)]] = true := by
    simp only [pre_part, Bool.and_eq_true, decide_eq_true_eq]
    exact ⟨⟨⟨by omega, by omega⟩, by omega⟩, by omega⟩
   exact hp
  ·rw [next (by omega)]
   exact ih (i + 1) (partS o l.t[i].c l.t[i].v.s) (by omega) (by omega)
theorem lprint_run : ∀ a : Lin × Unit, linSm a.1 = true -> Gets T_lprint 0 (endP' rs_lprint (Fits (⟨printL a.1⟩ : Str))) ic_lprint [] (st0 nt_lprint (encL a)) := by
 rintro ⟨l, ⟨⟩⟩ h
 show Gets T_lprint 0 (endP' rs_lprint (Fits (⟨printL l⟩ : Str))) _ _ _
 refine lprint_s l ⟨pre_enc (l, ()) rfl h, ex_enc (l, ()) rfl (iteN (fun hv => ?_) fun hv => ?_)⟩
 ·have hv : validL l = false := hv
  unfold printL
  rw [hv]
  exact ⟨rfl, rfl⟩
 ·have hv : validL l = true := hv
  unfold printL
  rw [hv, if_pos rfl, List.length_map]
  exact lprint_loop l hv l.t.length 0 [] (by omega) (by simp)
end Go.Pl

namespace Go.Pl
open Go.RowKit
open Enc (enc dec is)
open EncL (encL decL isL)
set_option maxRecDepth 100000
def ic_sub1 : IC := (.seq (.reg [⟨(some 2), (.box 7 (.t 0)), 0, none⟩, ⟨(some 3), (.mv (.c (.bool false))), 1, none⟩] none) (.seq (.reg [⟨(some 4), (.faddr 0 (.t 2)), 0, none⟩, ⟨(some 5), (.load false [(.int .i64)] (.t 4)), 0, none⟩, ⟨(some 6), (.bin .num .eql (.t 5) (.c (.int .i64 1))), 0, none⟩, ⟨(some 7), (.mv (.t 6)), 0, none⟩, ⟨(some 8), (.faddr 1 (.t 2)), 0, (some (7, true))⟩, ⟨(some 9), (.load false [.str] (.t 8)), 0, (some (7, true))⟩, ⟨(some 10), (.faddr 0 (.t 1)), 0, (some (7, true))⟩, ⟨(some 11), (.load false [.str] (.t 10)), 0, (some (7, true))⟩, ⟨(some 12), (.bin .num .eql (.t 9) (.t 11)), 0, (some (7, true))⟩, ⟨(some 13), (.pick (.t 7) (.t 12) (.c (.bool false))), 0, none⟩, ⟨(some 3), (.mv (.t 13)), 0, none⟩] none) .ret))
def rs_sub1 : List IRes := [(.tmp 3)]
abbrev nt_sub1 : Nat := 14
def T_sub1 : Tab := tab []
theorem sub1_s {G : AV × List AObj × List AObj -> Prop} (x : Bnd) (v : List UInt8) (c : Int) (h : if (Bnd.kind x == 1) = true then G (((.pv (.bool (Str.s (Bnd.v x) == v))), ([(.box [(.pv (.str v)), (.pv (.int .i64 c))])], []))) else (G (((.pv (.bool false)), ([(.box [(.pv (.str v)), (.pv (.int .i64 c))])], []))))) : Gets T_sub1 1 (endO' 1 rs_sub1 G) ic_sub1 [] (st0O 14 [.pv (enc x), .ptr 0 0] [.box [.pv (.str v), .pv (.int .i64 c)]]) := Gets.to (.lit (.ask (.lit (.lit (.lit (.lit (.lit (.lit (.nil))))))) (.lit (.lit (.lit (.lit (.lit (.nil)))))))) h (by kernel_rfl)
def ic_ixs : IC := (.seq (.reg [⟨(some 4), (.mv (.c (.int .i64 0))), 0, none⟩] none) (.seq (.seq (.reg [⟨(some 6), (.mv (.t 0)), 0, none⟩, ⟨(some 7), (.len 1 (.t 6)), 0, none⟩, ⟨(some 8), (.mv (.c (.int .i64 0))), 0, none⟩] none) (.block 0 (.loop [8, 7, 1, 0] (.seq (.reg [⟨(some 9), (.bin .num .lss (.t 8) (.t 7)), 0, none⟩] none) (.seq (.cond (.t 9) .skip (.exit 0)) (.seq (.block 1 (.seq (.reg [⟨(some 10), (.mv (.t 8)), 0, none⟩, ⟨(some 5), (.mv (.t 10)), 0, none⟩] none) (.seq (.reg [⟨(some 11), (.mv (.t 1)), 0, none⟩, ⟨(some 12), (.mv (.t 0)), 0, none⟩, ⟨(some 13), (.mv (.t 5)), 0, none⟩, ⟨(some 14), (.iaddr 7 (.t 12) (.t 13)), 0, none⟩, ⟨(some 15), (.load true [(.int .i64), .str, (.int .i64), (.sl 2), .str, (.sl 2), .str] (.t 14)), 0, none⟩, ⟨(some 16), (.call (.t 11) [(.t 15)]), 0, none⟩] none) (.cond (.t 16) (.seq (.reg [⟨(some 17), (.mv (.t 5)), 0, none⟩, ⟨(some 4), (.mv (.t 17)), 0, none⟩] none) .ret) .skip)))) (.reg [⟨(some 18), (.bin .num .add (.t 8) (.c (.int .i64 1))), 0, none⟩, ⟨(some 8), (.mv (.t 18)), 0, none⟩] none))))))) (.seq (.reg [⟨(some 4), (.mv (.c (.int .i64 (-1)))), 0, none⟩] none) .ret)))
def rs_ixs : List IRes := [(.tmp 4)]
abbrev nt_ixs : Nat := 19
def T_ixs : Tab := tab [(113, .own pre_s1 val_s1)]
theorem ixs_s {G : AV × List AObj × List AObj -> Prop} (l : List Bnd) (v : List UInt8) (c : Int) (h : At T_ixs 1 (endO' 1 rs_ixs G) ic_ixs 0 19 [(0, (.pv (.sl 7 false (List.map enc l)))), (1, (.fn 113 [] [(.ptr 0 0)])), (7, (.pv (.int .i64 (↑(List.length (List.map enc l)) : Int)))), (8, (.pv (.int .i64 0)))] [(.obj (.box [(.pv (.str v)), (.pv (.int .i64 c))]))]) : Gets T_ixs 1 (endO' 1 rs_ixs G) ic_ixs [] (st0O 19 [.pv (enc l), .fn 113 [] [.ptr 0 0]] [.box [.pv (.str v), .pv (.int .i64 c)]]) := Gets.to (.nil) h (by kernel_rfl)
theorem ixs_h0 {G : AV × List AObj × List AObj -> Prop} (l : List Bnd) (v : List UInt8) (c : Int) (i : Int) (h : if (decide (i < (↑(List.length l) : Int))) = true then (decide (0 <= i) && decide (Int.toNat i < List.length (List.map enc l)) && Enc.sz Bnd == 7) = true ∧ (∃ y0 : Bnd, AV.pv (PV.rptr (PV.cells (List.getD (List.map enc l) (Int.toNat i) default))) = AV.pv (PV.rptr (PV.cells ((enc) y0))) ∧ ((pre_s1 [(.pv (.agg [(.int .i64 (PV.asInt (List.getD (PV.cells (enc y0)) 0 default))), (.str (PV.asStr (List.getD (PV.cells (enc y0)) (0 + 1) default))), (.int .i64 (PV.asInt (List.getD (PV.cells (enc y0)) (0 + 1 + 1) default))), (.sl 2 false (PV.asXs (List.getD (PV.cells (enc y0)) (0 + 1 + 1 + 1) default))), (.str (PV.asStr (List.getD (PV.cells (enc y0)) (0 + 1 + 1 + 1 + 1) default))), (.sl 2 false (PV.asXs (List.getD (PV.cells (enc y0)) (0 + 1 + 1 + 1 + 1 + 1) default))), (.str (PV.asStr (List.getD (PV.cells (enc y0)) (0 + 1 + 1 + 1 + 1 + 1 + 1) default)))])), (.ptr 0 0)] [(.box [(.pv (.str v)), (.pv (.int .i64 c))])]) = true ∧ (if (bndB v (dec (PV.agg (shAll (PV.cells (enc y0)) 0 [Sh.int .i64, Sh.str, Sh.int .i64, Sh.sl 2, Sh.str, Sh.sl 2, Sh.str])))) = true then G (((.pv (.int .i64 i)), ([(.box [(.pv (.str v)), (.pv (.int .i64 c))])], []))) else (At T_ixs 1 (endO' 1 rs_ixs G) ic_ixs 0 19 [(0, (.pv (.sl 7 false (List.map enc l)))), (1, (.fn 113 [] [(.ptr 0 0)])), (7, (.pv (.int .i64 (↑(List.length l) : Int)))), (8, (.pv (.int .i64 (IntKind.wrap IntKind.i64 (i + 1)))))] [(.obj (.box [(.pv (.str v)), (.pv (.int .i64 c))]))])))) else (G (((.pv (.int .i64 (-1))), ([(.box [(.pv (.str v)), (.pv (.int .i64 c))])], []))))) : At T_ixs 1 (endO' 1 rs_ixs G) ic_ixs 0 19 [(0, .pv (enc l)), (1, .fn 113 [] [.ptr 0 0]), (7, .pv (.int .i64 l.length)), (8, .pv (.int .i64 i))] [.obj (.box [.pv (.str v), .pv (.int .i64 c)])] := At.to (.lit (.ask (.req (.abs (Bnd) (fun YY => AV.pv (PV.rptr (PV.cells ((enc) YY)))) (.lit (.req (.keep (.ask (.nil) (.lit (.nil)))))))) (.nil))) h (by kernel_rfl)
def ic_subst : IC := (.seq (.reg [⟨(some 2), (.box 2 (.t 0)), 0, none⟩, ⟨(some 4), (.alloc (.agg [(.int .i64 0), (.sl 0 true [])])), 1, none⟩, ⟨(some 5), (.mv (.c (.int .i64 0))), 2, none⟩] none) (.seq (.seq (.reg [⟨(some 10), (.load true [(.int .i64), (.sl 2)] (.t 2)), 0, none⟩, ⟨(some 11), (.call (.c (.fn 73)) [(.t 10)]), 0, none⟩, ⟨(some 12), (.un .not (.t 11)), 2, none⟩] none) (.cond (.t 12) (.seq (.reg [⟨(some 13), (.build [(.int .i64 0), (.sl 0 true [])] []), 0, none⟩, ⟨none, (.store 2 (.t 4) (.t 13)), 0, none⟩, ⟨(some 5), (.mv (.c (.int .i64 1))), 0, none⟩] none) .ret) .skip)) (.seq (.reg [⟨(some 14), (.faddr 0 (.t 2)), 0, none⟩, ⟨(some 15), (.load false [(.int .i64)] (.t 14)), 0, none⟩, ⟨(some 16), .mkmap, 0, none⟩, ⟨(some 17), (.build [(.int .i64 0), .nilmap] [(0, (1, (.t 15))), (1, (1, (.t 16)))]), 1, none⟩, ⟨(some 6), (.alloc (.agg [(.int .i64 0), .nilmap])), 1, none⟩, ⟨none, (.store 2 (.t 6) (.t 17)), 2, none⟩] none) (.seq (.seq (.reg [⟨(some 18), (.faddr 1 (.t 2)), 0, none⟩, ⟨(some 19), (.load false [(.sl 2)] (.t 18)), 0, none⟩, ⟨(some 20), (.len 1 (.t 19)), 0, none⟩, ⟨(some 21), (.mv (.c (.int .i64 0))), 0, none⟩] none) (.block 0 (.loop [21, 20, 19, 1, 6, 4] (.seq (.reg [⟨(some 22), (.bin .num .lss (.t 21) (.t 20)), 0, none⟩] none) (.seq (.cond (.t 22) .skip (.exit 0)) (.seq (.block 1 (.seq (.reg [⟨(some 23), (.iaddr 2 (.t 19) (.t 21)), 0, none⟩, ⟨(some 24), (.load true [.str, (.int .i64)] (.t 23)), 0, none⟩, ⟨(some 8), (.alloc (.agg [(.str []), (.int .i64 0)])), 0, none⟩, ⟨none, (.store 2 (.t 8) (.t 24)), 1, none⟩] none) (.seq (.reg [⟨(some 25), (.mv (.t 1)), 0, none⟩, ⟨(some 26), (.mkfn 113 [] [(.t 8)]), 0, none⟩, ⟨(some 27), (.call (.c (.fn 112)) [(.t 25), (.t 26)]), 0, none⟩, ⟨(some 9), (.mv (.t 27)), 2, none⟩] none) (.block 2 (.seq (.reg [⟨(some 37), (.mv (.t 9)), 0, none⟩, ⟨(some 38), (.bin .num .lss (.t 37) (.c (.int .i64 0))), 0, none⟩, ⟨(some 36), (.mv (.t 38)), 0, none⟩] none) (.cond (.t 36) (.reg [⟨(some 39), (.faddr 1 (.t 6)), 0, none⟩, ⟨(some 40), (.load false [.any] (.t 39)), 0, none⟩, ⟨(some 41), (.faddr 0 (.t 8)), 0, none⟩, ⟨(some 42), (.load false [.str] (.t 41)), 0, none⟩, ⟨(some 43), (.lookup true (.int .i64) (.int .i64 0) false (.t 40) (.t 42)), 0, none⟩, ⟨(some 44), (.faddr 1 (.t 8)), 0, none⟩, ⟨(some 45), (.load false [(.int .i64)] (.t 44)), 0, none⟩, ⟨(some 46), (.bin .num .add (.t 43) (.t 45)), 0, none⟩, ⟨none, (.mapupd true (.t 40) (.t 42) (.t 46)), 0, none⟩] none) (.seq (.reg [⟨(some 48), (.mv (.t 1)), 0, none⟩, ⟨(some 49), (.mv (.t 9)), 0, none⟩, ⟨(some 50), (.iaddr 7 (.t 48) (.t 49)), 0, none⟩, ⟨(some 51), (.faddr 2 (.t 50)), 0, none⟩, ⟨(some 52), (.load true [(.int .i64), (.sl 2)] (.t 51)), 0, none⟩, ⟨(some 53), (.call (.c (.fn 73)) [(.t 52)]), 0, none⟩, ⟨(some 54), (.un .not (.t 53)), 2, none⟩, ⟨(some 47), (.mv (.t 54)), 2, none⟩] none) (.cond (.t 47) (.seq (.reg [⟨(some 55), (.build [(.int .i64 0), (.sl 0 true [])] []), 0, none⟩, ⟨none, (.store 2 (.t 4) (.t 55)), 0, none⟩, ⟨(some 5), (.mv (.c (.int .i64 1))), 0, none⟩] none) .ret) (.reg [⟨(some 28), (.mv (.t 1)), 0, none⟩, ⟨(some 29), (.mv (.t 9)), 0, none⟩, ⟨(some 30), (.iaddr 7 (.t 28) (.t 29)), 0, none⟩, ⟨(some 31), (.faddr 2 (.t 30)), 0, none⟩, ⟨(some 32), (.load true [(.int .i64), (.sl 2)] (.t 31)), 0, none⟩, ⟨(some 33), (.faddr 1 (.t 8)), 0, none⟩, ⟨(some 34), (.load false [(.int .i64)] (.t 33)), 0, none⟩, ⟨(some 35), (.call (.c (.fn 114)) [(.t 6), (.t 32), (.t 34)]), 0, none⟩] (some [[], [], [0, 1], [2, 0, 1], [3, 2, 0, 1], [], [5], [4, 6, 3, 2, 0, 1, 5]])))))))))) (.reg [⟨(some 56), (.bin .num .add (.t 21) (.c (.int .i64 1))), 0, none⟩, ⟨(some 21), (.mv (.t 56)), 0, none⟩] none))))))) (.seq (.reg [⟨(some 57), (.call (.c (.fn 82)) [(.t 6)]), 0, none⟩, ⟨(some 58), (.extract (.t 57) 0), 2, none⟩, ⟨(some 59), (.extract (.t 57) 1), 2, none⟩, ⟨none, (.store 2 (.t 4) (.t 58)), 2, none⟩, ⟨(some 5), (.mv (.t 59)), 2, none⟩] none) .ret)))))
def rs_subst : List IRes := [(.cell true 2 4), (.tmp 5)]
abbrev nt_subst : Nat := 60
def T_subst : Tab := tab [(73, .pure (preT (fun x : Lin × Unit => linSm x.1)) (valT (fun x : Lin × Unit => validL x.1))), (112, .own (pre_ixS 113) val_ixS), (114, .own pre_add val_add), (82, .own pre_res val_res)]
theorem subst_s {G : PV -> Prop} (l : Lin) (bs : List Bnd) (h : (Go.Pl.preT (fun (x : Lin × Unit) => linSm x.1) [(.agg [(.int .i64 l.k), (.sl 2 false (List.map enc l.t))])]) = true ∧ (∃ y0 : Bool, AV.pv (valT (fun (x : Lin × Unit) => validL x.1) [(.agg [(.int .i64 l.k), (.sl 2 false (List.map enc l.t))])]) = AV.pv (enc y0) ∧ (if (!y0) = true then G ((.tup [(.agg [(.int .i64 0), (.sl 0 true [])]), (.int .i64 1)])) else (At T_subst 0 (endP' rs_subst G) ic_subst 0 60 [(1, (.pv (.sl 7 false (List.map enc bs)))), (4, (.ptr 0 0)), (6, (.ptr 1 0)), (19, (.pv (.sl 2 false (List.map enc l.t)))), (20, (.pv (.int .i64 (↑(List.length (List.map enc l.t)) : Int)))), (21, (.pv (.int .i64 0)))] [(.obj (.box [(.pv (.int .i64 0)), (.pv (.sl 0 true []))])), (.obj (.box [(.pv (.int .i64 l.k)), (.map 2)])), (.obj (.map []))])))) : Gets T_subst 0 (endP' rs_subst G) ic_subst [] (st0 60 [enc l, enc bs]) := Gets.tp (.req (.abs (Bool) (fun YY => AV.pv (enc YY)) (.ask (.nil) (.nil)))) h (by kernel_rfl)
theorem subst_h0 {G : PV -> Prop} (l : Lin) (bs : List Bnd) (n : Int) (m : List (Str × Int)) (i : Int) (h : if (decide (i < (↑(List.length l.t) : Int))) = true then (decide (0 <= i) && decide (Int.toNat i < List.length (List.map enc l.t)) && Enc.sz Coef == 2) = true ∧ (∃ y0 : Coef, AV.pv (PV.rptr (PV.cells (List.getD (List.map enc l.t) (Int.toNat i) default))) = AV.pv (PV.rptr (PV.cells ((enc) y0))) ∧ ((pre_ixS 113 [(.pv (.sl 7 false (List.map enc bs))), (.fn 113 [] [(.ptr 0 0)])] [(.box [(.pv (.str (PV.asStr (List.getD (PV.cells (enc y0)) 0 default)))), (.pv (.int .i64 (PV.asInt (List.getD (PV.cells (enc y0)) (0 + 1) default))))])]) = true ∧ (if (decide (ixFind (bndB (PV.asStr (List.getD (PV.cells (enc y0)) 0 default))) (dec (enc bs)) < 0)) = true then (lookOK (PV.str (PV.asStr (List.getD (PV.cells (enc y0)) 0 default))) (mapP m) && Sh.fit (Sh.int .i64) (lookD (PV.str (PV.asStr (List.getD (PV.cells (enc y0)) 0 default))) (PV.int .i64 0) (mapP m))) = true ∧ ((updOK (PV.str (PV.asStr (List.getD (PV.cells (enc y0)) 0 default))) (PV.int .i64 (IntKind.wrap IntKind.i64 (PV.asInt (lookD (PV.str (PV.asStr (List.getD (PV.cells (enc y0)) 0 default))) (PV.int .i64 0) (mapP m)) + PV.asInt (List.getD (PV.cells (enc y0)) (0 + 1) default)))) (mapP m)) = true ∧ (At T_subst 0 (endP' rs_subst G) ic_subst 0 60 [(1, (.pv (.sl 7 false (List.map enc bs)))), (4, (.ptr 0 0)), (6, (.ptr 1 0)), (19, (.pv (.sl 2 false (List.map enc l.t)))), (20, (.pv (.int .i64 (↑(List.length l.t) : Int)))), (21, (.pv (.int .i64 (IntKind.wrap IntKind.i64 (i + 1)))))] [(.obj (.box [(.pv (.int .i64 0)), (.pv (.sl 0 true []))])), (.obj (.box [(.pv (.int .i64 n)), (.map 2)])), (.obj (.map (updL (PV.str (PV.asStr (List.getD (PV.cells (enc y0)) 0 default))) (PV.int .i64 (IntKind.wrap IntKind.i64 (PV.asInt (lookD (PV.str (PV.asStr (List.getD (PV.cells (enc y0)) 0 default))) (PV.int .i64 0) (mapP m)) + PV.asInt (List.getD (PV.cells (enc y0)) (0 + 1) default)))) (mapP m))))])) else ((decide (0 <= ixFind (bndB (PV.asStr (List.getD (PV.cells (enc y0)) 0 default))) (dec (enc bs))) && decide (Int.toNat (ixFind (bndB (PV.asStr (List.getD (PV.cells (enc y0)) 0 default))) (dec (enc bs))) < List.length (List.map enc bs)) && Enc.sz Bnd == 7) = true ∧ (∃ y1 : Bnd, AV.pv (PV.rptr (PV.cells (List.getD (List.map enc bs) (Int.toNat (ixFind (bndB (PV.asStr (List.getD (PV.cells (enc y0)) 0 default))) (dec (enc bs)))) default))) = AV.pv (PV.rptr (PV.cells ((enc) y1))) ∧ ((Go.Pl.preT (fun (x : Lin × Unit) => linSm x.1) [(.agg [(.int .i64 (PV.asInt (List.getD (List.drop 2 (PV.cells (enc y1))) 0 default))), (.sl 2 false (PV.asXs (List.getD (List.drop 2 (PV.cells (enc y1))) (0 + 1) default)))])]) = true ∧ (∃ y2 : Bool, AV.pv (valT (fun (x : Lin × Unit) => validL x.1) [(.agg [(.int .i64 (PV.asInt (List.getD (List.drop 2 (PV.cells (enc y1))) 0 default))), (.sl 2 false (PV.asXs (List.getD (List.drop 2 (PV.cells (enc y1))) (0 + 1) default)))])]) = AV.pv (enc y2) ∧ (if (!y2) = true then G ((.tup [(.agg [(.int .i64 0), (.sl 0 true [])]), (.int .i64 1)])) else ((decide (0 <= ixFind (bndB (PV.asStr (List.getD (PV.cells (enc y0)) 0 default))) (dec (enc bs))) && decide (Int.toNat (ixFind (bndB (PV.asStr (List.getD (PV.cells (enc y0)) 0 default))) (dec (enc bs))) < List.length (List.map enc bs)) && Enc.sz Bnd == 7) = true ∧ (∃ y3 : Bnd, AV.pv (PV.rptr (PV.cells (List.getD (List.map enc bs) (Int.toNat (ixFind (bndB (PV.asStr (List.getD (PV.cells (enc y0)) 0 default))) (dec (enc bs)))) default))) = AV.pv (PV.rptr (PV.cells ((enc) y3))) ∧ ((pre_add [(.ptr 0 0), (.pv (.agg [(.int .i64 (PV.asInt (List.getD (List.drop 2 (PV.cells (enc y3))) 0 default))), (.sl 2 false (PV.asXs (List.getD (List.drop 2 (PV.cells (enc y3))) (0 + 1) default)))])), (.pv (.int .i64 (PV.asInt (List.getD (PV.cells (enc y0)) (0 + 1) default))))] [(.box [(.pv (.int .i64 n)), (.map 1)]), (.map (mapP m))]) = true ∧ (At T_subst 0 (endP' rs_subst G) ic_subst 0 60 [(1, (.pv (.sl 7 false (List.map enc bs)))), (4, (.ptr 0 0)), (6, (.ptr 1 0)), (19, (.pv (.sl 2 false (List.map enc l.t)))), (20, (.pv (.int .i64 (↑(List.length l.t) : Int)))), (21, (.pv (.int .i64 (IntKind.wrap IntKind.i64 (i + 1)))))] [(.obj (.box [(.pv (.int .i64 0)), (.pv (.sl 0 true []))])), (.obj (.box [(.pv (.int .i64 (w64 (n + w64 (PV.asInt (List.getD (PV.cells (enc y0)) (0 + 1) default) * Lin.k (dec (PV.agg (shAll (List.drop 2 (PV.cells (enc y3))) 0 [Sh.int .i64, Sh.sl 2])))))))), (.map 2)])), (.obj (.map (mapP (addT (PV.asInt (List.getD (PV.cells (enc y0)) (0 + 1) default)) (Lin.t (dec (PV.agg (shAll (List.drop 2 (PV.cells (enc y3))) 0 [Sh.int .i64, Sh.sl 2])))) (mapD (mapP m))))))])))))))))))) else ((pre_res [(.ptr 0 0)] [(.box [(.pv (.int .i64 n)), (.map 1)]), (.map (mapP m))]) = true ∧ (G ((.tup [(.agg [(.int .i64 (Lin.k (Prod.fst (resM n (mapD (mapP m)))))), (.sl 2 false (List.map enc (Lin.t (Prod.fst (resM n (mapD (mapP m)))))))]), (.int .i64 (Prod.snd (resM n (mapD (mapP m)))))]))))) : At T_subst 0 (endP' rs_subst G) ic_subst 0 60 [(1, .pv (enc bs)), (4, .ptr 0 0), (6, .ptr 1 0), (19, .pv (enc l.t)), (20, .pv (.int .i64 l.t.length)), (21, .pv (.int .i64 i))] [.obj (.box [.pv (.int .i64 0), .pv (.sl 0 true [])]), .obj (.box [.pv (.int .i64 n), .map 2]), .obj (.map (mapP m))] := At.tp (.lit (.ask (.req (.abs (Coef) (fun YY => AV.pv (PV.rptr (PV.cells ((enc) YY)))) (.lit (.req (.keep (.lit (.ask (.req (.keep (.lit (.req (.lit (.nil)))))) (.req (.abs (Bnd) (fun YY => AV.pv (PV.rptr (PV.cells ((enc) YY)))) (.lit (.req (.abs (Bool) (fun YY => AV.pv (enc YY)) (.ask (.nil) (.req (.abs (Bnd) (fun YY => AV.pv (PV.rptr (PV.cells ((enc) YY)))) (.lit (.req (.keep (.lit (.nil)))))))))))))))))))) (.req (.keep (.nil))))) h (by kernel_rfl)
end Go.Pl

namespace Go.Pl
open Go.RowKit
open Enc (enc dec is)
open EncL (encL decL isL)
theorem sub1_run : ∀ args os, pre_s1 args os = true -> Gets T_sub1 os.length (endO' os.length rs_sub1 fun r => r = val_s1 args os) ic_sub1 [] (st0O nt_sub1 args os) := by
 intro args os h
 unfold pre_s1 at h
 split at h
 ·rename_i x v c
  obtain ⟨x, rfl⟩ := can_eq h
  refine sub1_s x v c ?_
  simp only [val_s1, Enc.dec_enc, bndB]
  refine iteE (fun h => ?_) fun h => ?_
  ·simp [h]
  ·simp [h]
 ·cases h
theorem ixs_loop (l : List Bnd) (v : List UInt8) (c : Int) (hl : l.length <= 9223372036854775807) (H : AV × List AObj × List AObj) (hH : H = (.pv (.int .i64 (ixFind (bndB v) l)), [.box [.pv (.str v), .pv (.int .i64 c)]], [])) : ∀ (m i : Nat), m + i = l.length -> (∀ j (hj : j < l.length), j < i -> bndB v l[j] = false) ->
  At T_ixs 1 (endO' 1 rs_ixs fun r => r = H) ic_ixs 0 19 [(0, .pv (enc l)), (1, .fn 113 [] [.ptr 0 0]), (7, .pv (.int .i64 l.length)), (8, .pv (.int .i64 i))] [.obj (.box [.pv (.str v), .pv (.int .i64 c)])] := by
 subst hH
 intro m
 induction m with
 | zero =>
  intro i hi hno
  refine ixs_h0 l v c i (iteF (lt_no' (by omega)) ?_)
  rw [ix_none _ _ (fun j hj => hno j hj (by omega))]
 | succ m ih =>
  intro i hi hno
  have hlt : i < l.length := by omega
  have ed : (dec (PV.agg (shAll (PV.cells (enc l[i])) 0 [Sh.int .i64, Sh.str, Sh.int .i64, Sh.sl 2, Sh.str, Sh.sl 2, Sh.str])) : Bnd) = l[i] := Enc.dec_enc l[i]
  refine ixs_h0 l v c i (iteT (lt_ok' hlt) ⟨idx_ok hlt rfl, el_ex hlt ⟨can_enc l[i], ?_⟩⟩)
  rw [ed]
  refine iteB (fun hb => ?_) fun hb => ?_
  ·rw [ix_step (bndB v) l i hlt hno hb]
  ·rw [next (by omega)]
   refine ih (i + 1) (by omega) fun j hj hji => ?_
   by_cases e : j = i
   ·subst e; exact hb
   ·exact hno j hj (by omega)
theorem ixs_run : ∀ args os, pre_ixS 113 args os = true -> Gets T_ixs os.length (endO' os.length rs_ixs fun r => r = val_ixS args os) ic_ixs [] (st0O nt_ixs args os) := by
 intro args os h
 unfold pre_ixS at h
 split at h
 ·rename_i l g v c
  simp only [Bool.and_eq_true, beq_iff_eq, decide_eq_true_eq] at h
  obtain ⟨⟨rfl, hl⟩, h2⟩ := h
  obtain ⟨l, rfl⟩ := can_eq hl
  rw [Enc.dec_enc] at h2
  refine ixs_s l v c ?_
  rw [List.length_map]
  exact ixs_loop l v c h2 _ (by simp only [val_ixS, Enc.dec_enc]) l.length 0 (by omega) (fun j hj h => by omega)
 ·cases h
theorem ix_find {α : Type} (p : α -> Bool) (l : List α) : (ixFind p l < 0 ∧ l.find? p = none) ∨ ∃ (i : Nat) (hi : i < l.length), ixFind p l = i ∧ l.find? p = some l[i] := by
 unfold ixFind
 cases h : l.findIdx? p with
 | none =>
  refine .inl ⟨by decide, ?_⟩
  rw [List.findIdx?_eq_none_iff] at h
  rw [List.find?_eq_none]
  intro x hx
  rw [h x hx]; simp
 | some i =>
  rw [List.findIdx?_eq_some_iff_getElem] at h
  obtain ⟨hi, hp, hno⟩ := h
  refine .inr ⟨i, hi, rfl, ?_⟩
  rw [List.find?_eq_some_iff_getElem]
  exact ⟨hp, i, hi, rfl, fun j hj => by simpa using hno j hj⟩
theorem addT_keys' (k : Int) (l : Lin) (hl : validL l = true) (m : List (Str × Int)) (hm : ∀ x ∈ keysM m, x.length <= 1000) : ∀ x ∈ keysM (addT k l.t m), x.length <= 1000 := by
 intro x hx
 rcases addT_keys k l.t m x hx with h | ⟨t, ht, rfl⟩
 ·exact hm x h
 ·have := name_len (valid_coef hl ht).1
  omega
theorem coef_cells (t : Coef) : PV.asStr (List.getD (PV.cells (enc t)) 0 default) = t.v.s ∧ PV.asInt (List.getD (PV.cells (enc t)) (0 + 1) default) = t.c := ⟨rfl, rfl⟩
theorem subst_loop (l : Lin) (hv : validL l = true) (bs : List Bnd) (hb : bndsSm bs = true) : ∀ (j i : Nat) (n : Int) (m : List (Str × Int)), j + i = l.t.length -> m.length <= 12 * i -> (∀ x ∈ keysM m, x.length <= 1000) ->
  At T_subst 0 (endP' rs_subst (Fits (match foldS bs (l.t.drop i) (n, m) with | none => ((⟨0, []⟩, 1) : Lin × Int) | some s => resM s.1 s.2))) ic_subst 0 60 [(1, .pv (enc bs)), (4, .ptr 0 0), (6, .ptr 1 0), (19, .pv (enc l.t)), (20, .pv (.int .i64 l.t.length)), (21, .pv (.int .i64 i))] [.obj (.box [.pv (.int .i64 0), .pv (.sl 0 true [])]), .obj (.box [.pv (.int .i64 n), .map 2]), .obj (.map (mapP m))] := by
 have hlen := valid_len hv
 simp only [bndsSm, Bool.and_eq_true, decide_eq_true_eq, List.all_eq_true] at hb
 obtain ⟨hb1, hb2⟩ := hb
 intro j
 induction j with
 | zero =>
  intro i n m hi hm hk
  have ed : l.t.drop i = [] := List.drop_of_length_le (by omega)
  rw [ed]
  refine subst_h0 l bs n m i (iteF (lt_no' (by omega)) ?_)
  rw [mapD_map]
  refine ⟨?_, fits_of (x := resM n m) rfl⟩
  show (canM (mapP m) && mapSm (mapD (mapP m))) = true
  rw [canM_map, mapD_map]
  simp only [mapSm, Bool.true_and, Bool.and_eq_true, decide_eq_true_eq, List.all_eq_true]
  exact ⟨by omega, fun x hx => by have := hk x hx; omega⟩
 | succ j ih =>
  intro i n m hi hm hk
  have hlt : i < l.t.length := by omega
  have hd : l.t.drop i = l.t[i] :: l.t.drop (i + 1) := List.drop_eq_getElem_cons hlt
  rw [hd]
  have hnm := name_len (valid_coef hv (List.getElem_mem hlt)).1
  refine subst_h0 l bs n m i (iteT (lt_ok' hlt) ⟨idx_ok hlt rfl, el_ex hlt ?_⟩)
  generalize l.t[i] = t at hnm ⊢
  have edb : (dec (enc bs : PV) : List Bnd) = bs := Enc.dec_enc bs
  have hpre : pre_ixS 113 [.pv (enc bs), .fn 113 [] [.ptr 0 0]] [.box [.pv (.str t.v.s), .pv (.int .i64 t.c)]] = true := by
   show (_ == _ && can (List Bnd) (enc bs) && decide ((dec (enc bs : PV) : List Bnd).length <= 9223372036854775807)) = true
   rw [can_enc, edb, decide_eq_true hb1]
   simp
  refine ⟨hpre, ?_⟩
  rw [(coef_cells t).1, edb]
  rcases ix_find (bndB t.v.s) bs with ⟨h1, h2⟩ | ⟨k, hk2, h1, h2⟩
  ·have e : foldS bs (t :: l.t.drop (i + 1)) (n, m) = foldS bs (l.t.drop (i + 1)) (n, updM t.v (w64 (atM m t.v.s + t.c)) m) := by
    show (match putS bs (n, m) t with | none => none | some s' => foldS bs (l.t.drop (i + 1)) s') = _
    unfold putS
    rw [h2]
   rw [e]
   refine iteT (decide_eq_true h1) ⟨var_ok1 _ _, var_ok2 _ _ _, ?_⟩
   rw [var_upd, next (by omega)]
   exact ih (i + 1) n (updM t.v (w64 (atM m t.v.s + t.c)) m) (by omega) (by have := upd_len t.v (w64 (atM m t.v.s + t.c)) m; omega) fun x hx => by
    rcases upd_keys t.v (w64 (atM m t.v.s + t.c)) m with e | ⟨_, e⟩
    ·rw [e] at hx; exact hk x hx
    ·rw [e, List.mem_append] at hx
     rcases hx with hx | hx
     ·exact hk x hx
     ·rw [List.mem_singleton.1 hx]; omega
  ·have hneg : ¬ ((k : Nat) : Int) < 0 := by omega
   have edm : (dec (PV.agg (shAll (List.drop 2 (PV.cells (enc bs[k]))) 0 [Sh.int .i64, Sh.sl 2])) : Lin) = bs[k].dim := Enc.dec_enc bs[k].dim
   rw [h1]
   refine iteF (by simp) ?_
   have hsm := hb2 _ (List.getElem_mem hk2)
   refine ⟨idx_ok hk2 rfl, el_ex hk2 ⟨pre_enc (bs[k].dim, ()) rfl hsm, ex_enc (bs[k].dim, ()) rfl (iteN (fun hq => ?_) fun hq => ⟨idx_ok hk2 rfl, el_ex hk2 ⟨?_, ?_⟩⟩)⟩⟩
   ·have hq : validL bs[k].dim = false := hq
    have e : foldS bs (t :: l.t.drop (i + 1)) (n, m) = none := by
     show (match putS bs (n, m) t with | none => none | some s' => foldS bs (l.t.drop (i + 1)) s') = _
     unfold putS
     rw [h2]
     simp only
     rw [hq]; rfl
    rw [e]
    exact ⟨rfl, rfl⟩
   all_goals have hq : validL bs[k].dim = true := hq
   ·have hl := valid_len hq
    show (canM (mapP m) && can Lin (enc bs[k].dim) && decide ((dec (enc bs[k].dim : PV) : Lin).t.length <= 1000000)) = true
    rw [canM_map, can_enc, Enc.dec_enc, decide_eq_true (by omega)]; rfl
   ·have e : foldS bs (t :: l.t.drop (i + 1)) (n, m) = foldS bs (l.t.drop (i + 1)) (w64 (n + w64 (t.c * bs[k].dim.k)), addT t.c bs[k].dim.t m) := by
     show (match putS bs (n, m) t with | none => none | some s' => foldS bs (l.t.drop (i + 1)) s') = _
     unfold putS
     rw [h2]
     simp only
     rw [hq]; rfl
    rw [e, edm, mapD_map, next (by omega)]
    have h3 := addT_len t.c bs[k].dim.t m
    have hl := valid_len hq
    exact ih (i + 1) _ _ (by omega) (by omega) (addT_keys' t.c bs[k].dim hq m hk)
theorem subst_run : ∀ a : Lin × List Bnd × Unit, (linSm a.1 && bndsSm a.2.1) = true -> Gets T_subst 0 (endP' rs_subst (Fits (substL a.1 a.2.1))) ic_subst [] (st0 nt_subst (encL a)) := by
 rintro ⟨l, bs, ⟨⟩⟩ h
 simp only [Bool.and_eq_true] at h
 show Gets T_subst 0 (endP' rs_subst (Fits (substL l bs))) _ _ _
 refine subst_s l bs ⟨pre_enc (l, ()) rfl h.1, ex_enc (l, ()) rfl (iteN (fun hv => ?_) fun hv => ?_)⟩
 ·have hv : validL l = false := hv
  unfold substL
  rw [hv]
  exact ⟨rfl, rfl⟩
 ·have hv : validL l = true := hv
  unfold substL
  rw [hv, if_pos rfl, List.length_map]
  exact subst_loop l hv bs h.2 l.t.length 0 l.k [] (by omega) (by simp) (fun x hx => by cases hx)
end Go.Pl

namespace Go.Pl
open Go.RowKit
open Enc (enc dec is)
open EncL (encL decL isL)
set_option maxRecDepth 100000
def mS : Str := ⟨[109]⟩
theorem par1 : parseL [50, 110] = resM 0 [(nS, 2)] := by rfl
theorem par2 : parseL [109, 32, 45, 32, 49] = resM (-1) [(mS, 1)] := by rfl
theorem par3 : parseL [51, 32, 42, 32, 110, 32, 45, 32, 110, 43, 32, 50] = resM 2 [(nS, 2)] := by rfl
theorem par4 : parseL [110, 43, 109] = resM 0 [(nS, 1), (mS, 1)] := by rfl
theorem par5 : parseL [109, 43, 49] = resM 1 [(mS, 1)] := by rfl
theorem res_one (n : Int) (s : Str) (c : Int) (hc : c ≠ 0) : resM n [(s, c)] = limL ⟨n, [⟨s, c⟩]⟩ := by
 have : termsM [(s, c)] = [⟨s, c⟩] := by
  simp [termsM, hc, sortS_one, atM]
 unfold resM limL
 rw [this]
theorem sortS_two : sortS [[109], [110]] = [[109], [110]] := by
 unfold sortS
 exact List.mergeSort_of_pairwise (by decide)
theorem sortS_two' : sortS [[110], [109]] = [[109], [110]] := (sortS_perm' (List.Perm.swap _ _ _)).trans sortS_two
theorem res_nm (n a b : Int) (ha : a ≠ 0) (hb : b ≠ 0) : resM n [(nS, a), (mS, b)] = limL ⟨n, [⟨mS, b⟩, ⟨nS, a⟩]⟩ := by
 have : termsM [(nS, a), (mS, b)] = [⟨mS, b⟩, ⟨nS, a⟩] := by
  simp [termsM, ha, hb, nS, mS, sortS_two', atM]
 unfold resM limL
 rw [this]
theorem exP1 : parseL [50, 110] = (⟨0, [⟨nS, 2⟩]⟩, 0) := by rw [par1, res_one _ _ _ (by decide)]; decide
theorem exP2 : parseL [109, 32, 45, 32, 49] = (⟨-1, [⟨mS, 1⟩]⟩, 0) := by rw [par2, res_one _ _ _ (by decide)]; decide
theorem exP3 : parseL [51, 32, 42, 32, 110, 32, 45, 32, 110, 43, 32, 50] = (⟨2, [⟨nS, 2⟩]⟩, 0) := by rw [par3, res_one _ _ _ (by decide)]; decide
theorem exP4 : parseL [110, 43, 109] = (⟨0, [⟨mS, 1⟩, ⟨nS, 1⟩]⟩, 0) := by rw [par4, res_nm _ _ _ (by decide) (by decide)]; decide
theorem exP5 : parseL [109, 43, 49] = (⟨1, [⟨mS, 1⟩]⟩, 0) := by rw [par5, res_one _ _ _ (by decide)]; decide
theorem sumv : combineL ⟨0, [⟨nS, 2⟩]⟩ ⟨-1, [⟨mS, 1⟩]⟩ 1 = (⟨-1, [⟨mS, 1⟩, ⟨nS, 2⟩]⟩, 0) := by
 have h1 : validL ⟨0, [⟨nS, 2⟩]⟩ = true := by decide
 have h2 : validL ⟨-1, [⟨mS, 1⟩]⟩ = true := by decide
 rw [combine_times 1 h1 h2]; decide
def bnd4 : Bnd := ⟨1, nS, ⟨1, [⟨mS, 1⟩]⟩, ⟨[]⟩, [], ⟨[]⟩⟩
theorem subv : substL ⟨0, [⟨mS, 1⟩, ⟨nS, 1⟩]⟩ [bnd4] = (⟨1, [⟨mS, 2⟩]⟩, 0) := by
 have h1 : validL ⟨0, [⟨mS, 1⟩, ⟨nS, 1⟩]⟩ = true := by decide
 have h2 : foldS [bnd4] [⟨mS, 1⟩, ⟨nS, 1⟩] (0, []) = some (1, [(mS, 2)]) := by decide
 unfold substL
 rw [h1, if_pos rfl]
 simp only [h2]
 rw [res_one _ _ _ (by decide)]
 decide
theorem it1 : Lib.itoa 1 = [49] := by simp [Lib.itoa]; rw [Lib.decDigits]; rfl
theorem it2 : Lib.itoa 2 = [50] := by simp [Lib.itoa]; rw [Lib.decDigits]; rfl
theorem itm : Lib.itoa (-1) = [45, 49] := by simp [Lib.itoa]; rw [Lib.decDigits]; rfl
theorem part1 (o s : List UInt8) (ho : o = []) (hs : s ≠ []) : partS o 1 s = s := by
 subst ho
 simp only [partS, itoaS, it1]
 simp [hs]; rfl
theorem part2 (s : List UInt8) : partS [] 2 s = [50] ++ s := by
 simp [partS, itoaS, it2]
theorem part2o (o s : List UInt8) (ho : o ≠ []) : partS o 2 s = o ++ [43] ++ [50] ++ s := by
 simp [partS, itoaS, it2, ho]
theorem part1o (o : List UInt8) (ho : o ≠ []) : partS o 1 [] = o ++ [43, 49] := by
 simp [partS, itoaS, it1, ho]
theorem partmo (o : List UInt8) : partS o (-1) [] = o ++ [45, 49] := by
 simp [partS, itoaS, itm]
theorem prv1 : printL ⟨-1, [⟨mS, 1⟩, ⟨nS, 2⟩]⟩ = [109, 43, 50, 110, 45, 49] := by
 have hv : validL ⟨-1, [⟨mS, 1⟩, ⟨nS, 2⟩]⟩ = true := by decide
 have e : partsS [⟨mS, 1⟩, ⟨nS, 2⟩] = [109, 43, 50, 110] := by
  show partS (partS [] 1 [109]) 2 [110] = _
  rw [part1 [] [109] rfl (by decide), part2o _ _ (by decide)]; rfl
 unfold printL
 rw [hv, if_pos rfl]
 simp only [e]
 rw [if_pos (by decide), partmo]; rfl
theorem prv2 : printL ⟨2, [⟨nS, 2⟩]⟩ = [50, 110, 43, 50] := by
 have hv : validL ⟨2, [⟨nS, 2⟩]⟩ = true := by decide
 have e : partsS [⟨nS, 2⟩] = [50, 110] := by
  show partS [] 2 [110] = _
  rw [part2]; rfl
 unfold printL
 rw [hv, if_pos rfl]
 simp only [e]
 rw [if_pos (by decide), part2o _ _ (by decide)]; rfl
theorem prv3 : printL ⟨1, [⟨mS, 2⟩]⟩ = [50, 109, 43, 49] := by
 have hv : validL ⟨1, [⟨mS, 2⟩]⟩ = true := by decide
 have e : partsS [⟨mS, 2⟩] = [50, 109] := by
  show partS [] 2 [109] = _
  rw [part2]; rfl
 unfold printL
 rw [hv, if_pos rfl]
 simp only [e]
 rw [if_pos (by decide), part1o _ (by decide)]; rfl
theorem ex_valV {α β : Type} [EncL α] [Enc β] {F : α -> β} {ps : List PV} {P : β -> Prop} {v : β} (a : α) (h : decL ps = a) (hv : F a = v) (k : P v) : ∃ y, AV.pv (valT F ps) = AV.pv (enc y) ∧ P y := ex_val a h (by rw [hv]; exact k)
theorem ex_encV {α β : Type} [EncL α] [Enc β] {F : α -> β} {ps : List PV} {P : β -> Prop} {v : β} (a : α) (h : ps = encL a) (hv : F a = v) (k : P v) : ∃ y, AV.pv (valT F ps) = AV.pv (enc y) ∧ P y := ex_enc a h (by rw [hv]; exact k)
def l41 : Lin := ⟨0, [⟨nS, 2⟩]⟩
def l42 : Lin := ⟨-1, [⟨mS, 1⟩]⟩
def l43 : Lin := ⟨2, [⟨nS, 2⟩]⟩
def l44 : Lin := ⟨0, [⟨mS, 1⟩, ⟨nS, 1⟩]⟩
def l45 : Lin := ⟨1, [⟨mS, 1⟩]⟩
def l4s : Lin := ⟨-1, [⟨mS, 1⟩, ⟨nS, 2⟩]⟩
def l4z : Lin := ⟨1, [⟨mS, 2⟩]⟩
theorem awake4_run : ∀ a : Unit, true = true -> Gets T_awake4 0 (endP' rs_awake4 (Fits true)) ic_awake4 [] (st0 nt_awake4 (encL a)) := by
 rintro ⟨⟩ -
 refine awake4_s ?_
 refine ex_valV (v := (l41, 0)) ((⟨[50, 110]⟩ : Str), ()) rfl exP1 ?_
 refine ex_valV (v := (l42, 0)) ((⟨[109, 32, 45, 32, 49]⟩ : Str), ()) rfl exP2 ?_
 refine ⟨pre_enc (l41, l42, ()) rfl (by decide), ?_⟩
 refine ex_encV (v := (l4s, 0)) (l41, l42, ()) rfl sumv ?_
 refine ex_valV (v := (l43, 0)) ((⟨[51, 32, 42, 32, 110, 32, 45, 32, 110, 43, 32, 50]⟩ : Str), ()) rfl exP3 ?_
 refine ex_valV (v := (l44, 0)) ((⟨[110, 43, 109]⟩ : Str), ()) rfl exP4 ?_
 refine ex_valV (v := (l45, 0)) ((⟨[109, 43, 49]⟩ : Str), ()) rfl exP5 ?_
 refine ⟨by rfl, ?_⟩
 refine ex_valV (v := (l4z, 0)) (l44, [bnd4], ()) rfl subv ?_
 refine iteT rfl (iteT rfl (iteT rfl (iteT rfl (iteT rfl (iteT rfl (iteT rfl ?_))))))
 refine ⟨pre_enc (l4s, ()) rfl (by decide), ex_encV (v := (⟨[109, 43, 50, 110, 45, 49]⟩ : Str)) (l4s, ()) rfl (congrArg Str.mk prv1) (iteT rfl ?_)⟩
 refine ⟨pre_enc (l43, ()) rfl (by decide), ex_encV (v := (⟨[50, 110, 43, 50]⟩ : Str)) (l43, ()) rfl (congrArg Str.mk prv2) (iteT rfl ?_)⟩
 refine ⟨pre_enc (l4z, ()) rfl (by decide), ex_encV (v := (⟨[50, 109, 43, 49]⟩ : Str)) (l4z, ()) rfl (congrArg Str.mk prv3) (iteT rfl ?_)⟩
 refine ⟨pre_enc (l4s, ()) rfl (by decide), ex_encV (v := true) (l4s, ()) rfl (show validL l4s = true by decide) (iteT rfl ?_)⟩
 refine ⟨pre_enc (l4s, l4s, ()) rfl (by decide), ex_encV (v := true) (l4s, l4s, ()) rfl (show (cmpLin l4s l4s == 0) = true by decide) (fitB rfl)⟩
theorem lfew4_run : ∀ a : Lin × Lin × Unit, (linOk a.1 && linOk a.2.1) = true -> Gets T_lfew4 0 (endP' rs_lfew4 (Fits (few4 a.1 14 && few4 a.2.1 14))) ic_lfew4 [] (st0 nt_lfew4 (encL a)) := by
 rintro ⟨a, b, ⟨⟩⟩ h
 simp only [Bool.and_eq_true] at h
 show Gets T_lfew4 0 (endP' rs_lfew4 (Fits (few4 a 14 && few4 b 14))) _ _ _
 refine lfew4_s a b ⟨pre_enc (a, (14 : Int), ()) rfl h.1, ex_enc (a, (14 : Int), ()) rfl (iteC (fun h1 => ⟨pre_enc (b, (14 : Int), ()) rfl h.2, ex_enc (b, (14 : Int), ()) rfl (fitB ?_)⟩) fun h1 => fitB ?_)⟩
 ·have h1 : few4 a 14 = true := h1
  rw [h1]; rfl
 ·have h1 : few4 a 14 = false := by simpa using h1
  rw [h1]; rfl
theorem lsub4_run : ∀ a : Lin × Lin × Unit, (linSm a.1 && linSm a.2.1) = true -> Gets T_lsub4 0 (endP' rs_lsub4 (Fits (combineL a.1 a.2.1 (-1)))) ic_lsub4 [] (st0 nt_lsub4 (encL a)) := by
 rintro ⟨a, b, ⟨⟩⟩ h
 exact lsub4_s a b ⟨pre_enc (a, b, (-1 : Int), ()) rfl h, ex_enc (a, b, (-1 : Int), ()) rfl (fits_of (x := combineL a b (-1)) rfl)⟩
end Go.Pl

namespace Go.Pl
open Go.RowKit
open Enc (enc dec is)
open EncL (encL decL isL)
theorem atM_other (k : Int) (s : List UInt8) : ∀ (x : List Coef) (m : List (Str × Int)), (∀ u ∈ x, u.v.s ≠ s) -> atM (addT k x m) s = atM m s
 | [], m, h => rfl
 | t :: x, m, h => by
  rw [addT, atM_other k s x _ fun u hu => h u (by simp [hu]), upd_at, if_neg (h t (by simp))]
theorem coef_rng {l : Lin} (h : validL l = true) (s : List UInt8) : -1000000 <= coefT l.t s ∧ coefT l.t s <= 1000000 := by
 unfold coefT
 cases hf : l.t.find? fun t => t.v.s == s with
 | none => exact ⟨by decide, by decide⟩
 | some t =>
  have := (valid_coef h (List.mem_of_find?_eq_some hf)).2.2
  exact this
theorem big_mul {c x : Int} (hc : c = 1000001 ∨ c = -1000001) (hx : x ≠ 0) : ¬ (-1000000 <= c * x ∧ c * x <= 1000000) := by
 rcases hc with rfl | rfl <;> omega
theorem scale_big {a : Lin} {c : Int} (hv : validL a = true) (hc : c = 1000001 ∨ c = -1000001) (hz : a.k ≠ 0 ∨ a.t ≠ []) : limL (timesL ⟨0, []⟩ a c) = (⟨0, []⟩, 3) := by
 have hk := valid_k hv
 have hbad : validL (timesL ⟨0, []⟩ a c) = false := by
  cases hr : validL (timesL ⟨0, []⟩ a c)
  ·rfl
  exfalso
  by_cases hk0 : a.k = 0
  ·have ht : a.t ≠ [] := hz.resolve_left fun h => h hk0
   cases hat : a.t with
   | nil => exact ht hat
   | cons t r =>
    have hasc := valid_asc hv
    rw [hat] at hasc
    obtain ⟨h1, _⟩ := asc_cons.1 hasc
    have htc := (valid_coef hv (show t ∈ a.t by rw [hat]; simp)).2
    have hrep := times_rep c a.t ⟨w64 (0 + w64 (c * a.k)), []⟩ [] ⟨List.Pairwise.nil, fun s => rfl⟩
    have e1 : coefT (timesL ⟨0, []⟩ a c).t t.v.s = atM (addT c a.t []) t.v.s := hrep.2 t.v.s
    have hb : -2000000000000 <= c * t.c ∧ c * t.c <= 2000000000000 := by rcases hc with rfl | rfl <;> omega
    have e2 : atM (addT c a.t []) t.v.s = c * t.c := by
     rw [hat, addT, atM_other c t.v.s r _ (fun u hu e => by have := h1 u hu; rw [e] at this; exact List.lt_irrefl _ this), upd_at, if_pos rfl]
     have e0 : atM ([] : List (Str × Int)) t.v.s = 0 := rfl
     have w1 : IntKind.i64.wrap (c * t.c) = c * t.c := w64_id (by omega) (by omega)
     rw [e0, Int.zero_add, w1, w1]
    have := coef_rng hr t.v.s
    rw [e1, e2] at this
    exact big_mul hc htc.1 this
  ·have hb : -2000000000000 <= c * a.k ∧ c * a.k <= 2000000000000 := by rcases hc with rfl | rfl <;> omega
   have := valid_k hr
   rw [times_k, w64_id (n := c * a.k) (by omega) (by omega)] at this
   have e0 : (⟨0, []⟩ : Lin).k = 0 := rfl
   rw [e0, Int.zero_add, w64_id (by omega) (by omega)] at this
   exact big_mul hc hk0 this
 unfold limL
 rw [hbad]; rfl
theorem clamp_out {k : Int} (h : coefIn k = false) : max (-1000001) (min k 1000001) = 1000001 ∨ max (-1000001) (min k 1000001) = -1000001 := by
 simp only [coefIn, Bool.and_eq_false_iff, decide_eq_false_iff_not] at h
 omega
theorem clamp_in {k : Int} (h : coefIn k = true) : max (-1000001) (min k 1000001) = k := by
 simp only [coefIn, Bool.and_eq_true, decide_eq_true_eq] at h
 omega
end Go.Pl

namespace Go.Pl
open Go.RowKit
open Enc (enc dec is)
open EncL (encL decL isL)
def boundL (bs : List Bnd) (s : Str) : Lin × Bool := match bs.find? (bndB s.s) with | some b => (b.dim, true) | none => (⟨0, []⟩, false)
end Go.Pl

