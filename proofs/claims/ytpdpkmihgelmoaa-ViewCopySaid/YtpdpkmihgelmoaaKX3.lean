/-
  Texts of mine that belong together (packed by pack.py), for every input: GSize, QSize, GVa, QVa, GVb, QVb, QVc, QVd, QVe, GVc, QVf, GVd, QVg, QVh, QVi.
-/
import Derived.Test.YtpdpkmihgelmoaaKX2
import Derived.KernelRfl
set_option linter.unusedVariables false
set_option linter.unusedSimpArgs false
namespace Go.Pl
open Go.RowKit
set_option maxRecDepth 100000
def val_contains : List PV → PV
  | [.sl _ _ xs, .int _ v] => .bool (xs.any fun x => x.asInt == v)
  | _ => .nilp
def pre_contains : List PV → Bool
  | [.sl 1 _ xs, .int .i64 _] => xs.all PV.isNum && decide (xs.length ≤ 1099511627776)
  | _ => false
def ic_size : IC := (.seq (.reg [⟨(some 2), (.mv (.c (.int .i64 0))), 0, none⟩, ⟨(some 3), (.mv (.c (.int .i64 0))), 0, none⟩] none) (.seq (.seq (.reg [⟨(some 9), (.mv (.t 0)), 0, none⟩, ⟨(some 10), (.len 1 (.t 9)), 0, none⟩, ⟨(some 11), (.bin .num .gtr (.t 10) (.c (.int .i64 6))), 0, none⟩] none) (.cond (.t 11) (.seq (.reg [⟨(some 2), (.mv (.c (.int .i64 0))), 0, none⟩, ⟨(some 3), (.mv (.c (.int .i64 13))), 0, none⟩] none) .ret) .skip)) (.seq (.seq (.reg [⟨(some 12), (.mv (.t 0)), 0, none⟩, ⟨(some 13), (.len 1 (.t 12)), 0, none⟩, ⟨(some 14), (.mv (.c (.int .i64 0))), 0, none⟩] none) (.block 0 (.loop [14, 13, 12, 0] (.seq (.reg [⟨(some 15), (.bin .num .lss (.t 14) (.t 13)), 0, none⟩] none) (.seq (.cond (.t 15) .skip (.exit 0)) (.seq (.block 1 (.seq (.reg [⟨(some 16), (.iaddr 1 (.t 12) (.t 14)), 0, none⟩, ⟨(some 17), (.load false [(.int .i64)] (.t 16)), 0, none⟩, ⟨(some 5), (.mv (.t 17)), 0, none⟩] none) (.seq (.reg [⟨(some 18), (.mv (.t 5)), 0, none⟩, ⟨(some 19), (.bin .num .lss (.t 18) (.c (.int .i64 0))), 0, none⟩, ⟨(some 20), (.mv (.t 19)), 0, none⟩, ⟨(some 21), (.mv (.t 5)), 0, (some (20, false))⟩, ⟨(some 22), (.bin .num .gtr (.t 21) (.c (.int .i64 4096))), 0, (some (20, false))⟩, ⟨(some 23), (.pick (.t 20) (.c (.bool true)) (.t 22)), 0, none⟩] none) (.cond (.t 23) (.seq (.reg [⟨(some 2), (.mv (.c (.int .i64 0))), 0, none⟩, ⟨(some 3), (.mv (.c (.int .i64 2))), 0, none⟩] none) .ret) .skip)))) (.reg [⟨(some 24), (.bin .num .add (.t 14) (.c (.int .i64 1))), 0, none⟩, ⟨(some 14), (.mv (.t 24)), 0, none⟩] none))))))) (.seq (.seq (.reg [⟨(some 25), (.mv (.t 0)), 0, none⟩, ⟨(some 26), (.call (.c (.fn 80)) [(.t 25), (.c (.int .i64 0))]), 0, none⟩] none) (.cond (.t 26) (.seq (.reg [⟨(some 2), (.mv (.c (.int .i64 0))), 0, none⟩, ⟨(some 3), (.mv (.c (.int .i64 0))), 0, none⟩] none) .ret) .skip)) (.seq (.reg [⟨(some 6), (.mv (.c (.int .i64 1))), 0, none⟩] none) (.seq (.seq (.reg [⟨(some 27), (.mv (.t 0)), 0, none⟩, ⟨(some 28), (.len 1 (.t 27)), 0, none⟩, ⟨(some 29), (.mv (.c (.int .i64 0))), 0, none⟩] none) (.block 2 (.loop [29, 28, 27, 6] (.seq (.reg [⟨(some 30), (.bin .num .lss (.t 29) (.t 28)), 0, none⟩] none) (.seq (.cond (.t 30) .skip (.exit 2)) (.seq (.block 3 (.seq (.reg [⟨(some 31), (.iaddr 1 (.t 27) (.t 29)), 0, none⟩, ⟨(some 32), (.load false [(.int .i64)] (.t 31)), 0, none⟩, ⟨(some 8), (.mv (.t 32)), 0, none⟩] none) (.seq (.reg [⟨(some 33), (.mv (.t 6)), 0, none⟩, ⟨(some 34), (.mv (.t 8)), 0, none⟩, ⟨(some 35), (.bin .num .mul (.t 33) (.t 34)), 0, none⟩, ⟨(some 6), (.mv (.t 35)), 0, none⟩] none) (.seq (.reg [⟨(some 36), (.mv (.t 6)), 0, none⟩, ⟨(some 37), (.bin .num .gtr (.t 36) (.c (.int .i64 4096))), 0, none⟩] none) (.cond (.t 37) (.seq (.reg [⟨(some 2), (.mv (.c (.int .i64 0))), 0, none⟩, ⟨(some 3), (.mv (.c (.int .i64 3))), 0, none⟩] none) .ret) .skip))))) (.reg [⟨(some 38), (.bin .num .add (.t 29) (.c (.int .i64 1))), 0, none⟩, ⟨(some 29), (.mv (.t 38)), 0, none⟩] none))))))) (.seq (.reg [⟨(some 39), (.mv (.t 6)), 0, none⟩, ⟨(some 2), (.mv (.t 39)), 0, none⟩, ⟨(some 3), (.mv (.c (.int .i64 0))), 0, none⟩] none) .ret)))))))
def rs_size : List IRes := [(.tmp 2), (.tmp 3)]
def T_size : Tab := tab [(80, .pure pre_contains val_contains)]
theorem size_s_0 {r : PV} (ns : List Int) (t : Bool) (h0 : (decide ((↑(nums ns).length : Int) > 6)) = true) (hr : (.tup [(.int .i64 0), (.int .i64 13)]) = r) : Gets T_size 0 (fun st => fin st rs_size = some r) ic_size [] (st0 40 [.sl 1 t (nums ns)]) := Gets.w (.lit (.ans true (.nil))) (And.intro h0 hr) (by kernel_rfl)
theorem size_s_1 {r : PV} (ns : List Int) (t : Bool) (h0 : (decide ((↑(nums ns).length : Int) > 6)) = false) (hn : At T_size 0 (fun st => fin st rs_size = some r) ic_size 0 40 [(0, (.pv (.sl 1 t (nums ns)))), (12, (.pv (.sl 1 t (nums ns)))), (13, (.pv (.int .i64 (↑(nums ns).length : Int)))), (14, (.pv (.int .i64 0)))] []) : Gets T_size 0 (fun st => fin st rs_size = some r) ic_size [] (st0 40 [.sl 1 t (nums ns)]) := Gets.w (.lit (.ans false (.nil))) (And.intro h0 hn) (by kernel_rfl)
theorem size_h0_0 {r : PV} (ns : List Int) (t : Bool) (i : Int) (h0 : (decide (i < (↑(nums ns).length : Int))) = true) (h1 : (decide (0 ≤ i) && decide (i.toNat < (nums ns).length) && 1 == 1) = true) (h2 : (decide (0 + [Sh.int .i64].length ≤ ((nums ns).getD i.toNat default).cells.length) && shFit ((nums ns).getD i.toNat default).cells 0 [Sh.int .i64]) = true) (h3 : (decide ((((nums ns).getD i.toNat default).cells.getD 0 default).asInt < 0)) = true) (hr : (.tup [(.int .i64 0), (.int .i64 2)]) = r) : At T_size 0 (fun st => fin st rs_size = some r) ic_size 0 40 [(0, .pv (.sl 1 t (nums ns))), (12, .pv (.sl 1 t (nums ns))), (13, .pv (.int .i64 (nums ns).length)), (14, .pv (.int .i64 i))] [] := At.w (.lit (.ans true (.req (.req (.lit (.ans true (.lit (.lit (.lit (.nil)))))))))) (And.intro h0 (And.intro h1 (And.intro h2 (And.intro h3 hr)))) (by kernel_rfl)
theorem size_h0_1 {r : PV} (ns : List Int) (t : Bool) (i : Int) (h0 : (decide (i < (↑(nums ns).length : Int))) = true) (h1 : (decide (0 ≤ i) && decide (i.toNat < (nums ns).length) && 1 == 1) = true) (h2 : (decide (0 + [Sh.int .i64].length ≤ ((nums ns).getD i.toNat default).cells.length) && shFit ((nums ns).getD i.toNat default).cells 0 [Sh.int .i64]) = true) (h3 : (decide ((((nums ns).getD i.toNat default).cells.getD 0 default).asInt < 0)) = false) (h4 : (decide ((((nums ns).getD i.toNat default).cells.getD 0 default).asInt > 4096)) = true) (hr : (.tup [(.int .i64 0), (.int .i64 2)]) = r) : At T_size 0 (fun st => fin st rs_size = some r) ic_size 0 40 [(0, .pv (.sl 1 t (nums ns))), (12, .pv (.sl 1 t (nums ns))), (13, .pv (.int .i64 (nums ns).length)), (14, .pv (.int .i64 i))] [] := At.w (.lit (.ans true (.req (.req (.lit (.ans false (.lit (.lit (.lit (.ans true (.nil))))))))))) (And.intro h0 (And.intro h1 (And.intro h2 (And.intro h3 (And.intro h4 hr))))) (by kernel_rfl)
theorem size_h0_2 {r : PV} (ns : List Int) (t : Bool) (i : Int) (h0 : (decide (i < (↑(nums ns).length : Int))) = true) (h1 : (decide (0 ≤ i) && decide (i.toNat < (nums ns).length) && 1 == 1) = true) (h2 : (decide (0 + [Sh.int .i64].length ≤ ((nums ns).getD i.toNat default).cells.length) && shFit ((nums ns).getD i.toNat default).cells 0 [Sh.int .i64]) = true) (h3 : (decide ((((nums ns).getD i.toNat default).cells.getD 0 default).asInt < 0)) = false) (h4 : (decide ((((nums ns).getD i.toNat default).cells.getD 0 default).asInt > 4096)) = false) (hn : At T_size 0 (fun st => fin st rs_size = some r) ic_size 0 40 [(0, (.pv (.sl 1 t (nums ns)))), (12, (.pv (.sl 1 t (nums ns)))), (13, (.pv (.int .i64 (↑(nums ns).length : Int)))), (14, (.pv (.int .i64 (IntKind.i64.wrap (i + 1)))))] []) : At T_size 0 (fun st => fin st rs_size = some r) ic_size 0 40 [(0, .pv (.sl 1 t (nums ns))), (12, .pv (.sl 1 t (nums ns))), (13, .pv (.int .i64 (nums ns).length)), (14, .pv (.int .i64 i))] [] := At.w (.lit (.ans true (.req (.req (.lit (.ans false (.lit (.lit (.lit (.ans false (.lit (.nil)))))))))))) (And.intro h0 (And.intro h1 (And.intro h2 (And.intro h3 (And.intro h4 hn))))) (by kernel_rfl)
theorem size_h0_3 {r : PV} (ns : List Int) (t : Bool) (i : Int) (h0 : (decide (i < (↑(nums ns).length : Int))) = false) (h1 : (pre_contains [(.sl 1 t (nums ns)), (.int .i64 0)]) = true) (h2 : ((nums ns).any fun x => x.asInt == 0) = true) (hr : (.tup [(.int .i64 0), (.int .i64 0)]) = r) : At T_size 0 (fun st => fin st rs_size = some r) ic_size 0 40 [(0, .pv (.sl 1 t (nums ns))), (12, .pv (.sl 1 t (nums ns))), (13, .pv (.int .i64 (nums ns).length)), (14, .pv (.int .i64 i))] [] := At.w (.lit (.ans false (.req (.ans true (.nil))))) (And.intro h0 (And.intro h1 (And.intro h2 hr))) (by kernel_rfl)
theorem size_h0_4 {r : PV} (ns : List Int) (t : Bool) (i : Int) (h0 : (decide (i < (↑(nums ns).length : Int))) = false) (h1 : (pre_contains [(.sl 1 t (nums ns)), (.int .i64 0)]) = true) (h2 : ((nums ns).any fun x => x.asInt == 0) = false) (hn : At T_size 0 (fun st => fin st rs_size = some r) ic_size 1 40 [(6, (.pv (.int .i64 1))), (27, (.pv (.sl 1 t (nums ns)))), (28, (.pv (.int .i64 (↑(nums ns).length : Int)))), (29, (.pv (.int .i64 0)))] []) : At T_size 0 (fun st => fin st rs_size = some r) ic_size 0 40 [(0, .pv (.sl 1 t (nums ns))), (12, .pv (.sl 1 t (nums ns))), (13, .pv (.int .i64 (nums ns).length)), (14, .pv (.int .i64 i))] [] := At.w (.lit (.ans false (.req (.ans false (.nil))))) (And.intro h0 (And.intro h1 (And.intro h2 hn))) (by kernel_rfl)
theorem size_h1_0 {r : PV} (ns : List Int) (t : Bool) (i n : Int) (h0 : (decide (i < (↑(nums ns).length : Int))) = true) (h1 : (decide (0 ≤ i) && decide (i.toNat < (nums ns).length) && 1 == 1) = true) (h2 : (decide (0 + [Sh.int .i64].length ≤ ((nums ns).getD i.toNat default).cells.length) && shFit ((nums ns).getD i.toNat default).cells 0 [Sh.int .i64]) = true) (h3 : (decide (IntKind.i64.wrap (n * (((nums ns).getD i.toNat default).cells.getD 0 default).asInt) > 4096)) = true) (hr : (.tup [(.int .i64 0), (.int .i64 3)]) = r) : At T_size 0 (fun st => fin st rs_size = some r) ic_size 1 40 [(6, .pv (.int .i64 n)), (27, .pv (.sl 1 t (nums ns))), (28, .pv (.int .i64 (nums ns).length)), (29, .pv (.int .i64 i))] [] := At.w (.lit (.ans true (.req (.req (.lit (.lit (.ans true (.nil)))))))) (And.intro h0 (And.intro h1 (And.intro h2 (And.intro h3 hr)))) (by kernel_rfl)
theorem size_h1_1 {r : PV} (ns : List Int) (t : Bool) (i n : Int) (h0 : (decide (i < (↑(nums ns).length : Int))) = true) (h1 : (decide (0 ≤ i) && decide (i.toNat < (nums ns).length) && 1 == 1) = true) (h2 : (decide (0 + [Sh.int .i64].length ≤ ((nums ns).getD i.toNat default).cells.length) && shFit ((nums ns).getD i.toNat default).cells 0 [Sh.int .i64]) = true) (h3 : (decide (IntKind.i64.wrap (n * (((nums ns).getD i.toNat default).cells.getD 0 default).asInt) > 4096)) = false) (hn : At T_size 0 (fun st => fin st rs_size = some r) ic_size 1 40 [(6, (.pv (.int .i64 (IntKind.i64.wrap (n * (((nums ns).getD i.toNat default).cells.getD 0 default).asInt))))), (27, (.pv (.sl 1 t (nums ns)))), (28, (.pv (.int .i64 (↑(nums ns).length : Int)))), (29, (.pv (.int .i64 (IntKind.i64.wrap (i + 1)))))] []) : At T_size 0 (fun st => fin st rs_size = some r) ic_size 1 40 [(6, .pv (.int .i64 n)), (27, .pv (.sl 1 t (nums ns))), (28, .pv (.int .i64 (nums ns).length)), (29, .pv (.int .i64 i))] [] := At.w (.lit (.ans true (.req (.req (.lit (.lit (.ans false (.lit (.nil))))))))) (And.intro h0 (And.intro h1 (And.intro h2 (And.intro h3 hn)))) (by kernel_rfl)
theorem size_h1_2 {r : PV} (ns : List Int) (t : Bool) (i n : Int) (h0 : (decide (i < (↑(nums ns).length : Int))) = false) (hr : (.tup [(.int .i64 n), (.int .i64 0)]) = r) : At T_size 0 (fun st => fin st rs_size = some r) ic_size 1 40 [(6, .pv (.int .i64 n)), (27, .pv (.sl 1 t (nums ns))), (28, .pv (.int .i64 (nums ns).length)), (29, .pv (.int .i64 i))] [] := At.w (.lit (.ans false (.nil))) (And.intro h0 hr) (by kernel_rfl)
end Go.Pl

namespace Go.Pl
open Go.RowKit
def dimB (d : Int) : Bool := decide (0 ≤ d) && decide (d ≤ 4096)
def prodB : Int → List Int → Option Int
  | p, [] => some p
  | p, d :: l => bif decide (4096 < p * d) then none else prodB (p * d) l
def sizeB (l : List Int) : Int × Int :=
  bif decide (6 < l.length) then (0, 13) else bif l.all dimB then bif l.any (· == 0) then (0, 0) else match prodB 1 l with | some n => (n, 0) | none => (0, 3) else (0, 2)
def val_size : List PV → PV
  | [.sl _ _ xs] => .tup [.int .i64 (sizeB (xs.map PV.asInt)).1, .int .i64 (sizeB (xs.map PV.asInt)).2]
  | _ => .nilp
def pre_size : List PV → Bool
  | [.sl 1 _ xs] => xs.all PV.isNum
  | _ => false
theorem size_loop1 {r : PV} (ns : List Int) (t : Bool) (h6 : ns.length ≤ 6) (ha : ns.all dimB = true) : ∀ (m k : Nat) (n : Int), m + k = ns.length → 0 ≤ n → n ≤ 4096 →
    r = (match prodB n (ns.drop k) with | some n => .tup [.int .i64 n, .int .i64 0] | none => .tup [.int .i64 0, .int .i64 3]) →
    At T_size 0 (fun st => fin st rs_size = some r) ic_size 1 40 [(6, .pv (.int .i64 n)), (27, .pv (.sl 1 t (nums ns))), (28, .pv (.int .i64 (nums ns).length)), (29, .pv (.int .i64 k))] [] := by
  intro m
  induction m with
  | zero =>
    intro k n hk h0 h1 hr
    have : ns.drop k = [] := List.drop_of_length_le (by omega)
    rw [this] at hr
    exact size_h1_2 ns t k n (by simp; omega) hr.symm
  | succ m ih =>
    intro k n hk h0 h1 hr
    have hlt : k < ns.length := by omega
    have hd : 0 ≤ ns[k] ∧ ns[k] ≤ 4096 := by
      have := List.all_eq_true.1 ha _ (List.getElem_mem hlt)
      simpa [dimB] using this
    have hp : 0 ≤ n * ns[k] ∧ n * ns[k] ≤ 4096 * 4096 := ⟨Int.mul_nonneg h0 hd.1, Int.mul_le_mul h1 hd.2 hd.1 (by omega)⟩
    have hw : IntKind.i64.wrap (n * ns[k]) = n * ns[k] := wrap64 (by omega) (by omega)
    rw [List.drop_eq_getElem_cons hlt, prodB] at hr
    have e := nums_at' hlt
    by_cases hb : 4096 < n * ns[k]
    · simp only [hb, decide_true, cond_true] at hr
      refine size_h1_0 ns t k n (by simp; omega) (by simp; omega) (by rw [e]; rfl) ?_ hr.symm
      rw [e]
      simpa [PV.cells, PV.asInt, hw] using hb
    · simp only [hb, decide_false, cond_false] at hr
      refine size_h1_1 ns t k n (by simp; omega) (by simp; omega) (by rw [e]; rfl) ?_ ?_
      · rw [e]
        simpa [PV.cells, PV.asInt, hw] using Int.not_lt.1 hb
      · rw [e, next (by omega)]
        simp only [PV.cells, List.getD_cons_zero, PV.asInt, hw]
        exact ih (k + 1) (n * ns[k]) (by omega) hp.1 (by omega) hr
theorem size_loop0 (ns : List Int) (t : Bool) (h6 : ns.length ≤ 6) : ∀ (m k : Nat), m + k = ns.length → (∀ j (hj : j < ns.length), j < k → dimB ns[j] = true) →
    At T_size 0 (fun st => fin st rs_size = some (val_size [.sl 1 t (nums ns)])) ic_size 0 40 [(0, .pv (.sl 1 t (nums ns))), (12, .pv (.sl 1 t (nums ns))), (13, .pv (.int .i64 (nums ns).length)), (14, .pv (.int .i64 k))] [] := by
  intro m
  induction m with
  | zero =>
    intro k hk hd
    have ha : ns.all dimB = true := by
      rw [List.all_eq_true]
      intro x hx
      obtain ⟨j, hj, rfl⟩ := List.getElem_of_mem hx
      exact hd j hj (by omega)
    have hpc : pre_contains [.sl 1 t (nums ns), .int .i64 0] = true := by
      simp only [pre_contains, all_nums, Bool.true_and, decide_eq_true_eq, nums_length]; omega
    by_cases hz : ns.any (· == 0) = true
    · refine size_h0_3 ns t k (by simp; omega) hpc (by rw [any_nums]; exact hz) ?_
      simp [val_size, sizeB, asInt_nums, ha, hz, Nat.not_lt.2 h6]
    · simp only [Bool.not_eq_true] at hz
      refine size_h0_4 ns t k (by simp; omega) hpc (by rw [any_nums]; exact hz) ?_
      refine size_loop1 ns t h6 ha ns.length 0 1 (by omega) (by omega) (by omega) ?_
      simp only [val_size, sizeB, asInt_nums, ha, hz, Nat.not_lt.2 h6, decide_false, cond_false, cond_true, List.drop_zero]
      cases prodB 1 ns <;> rfl
  | succ m ih =>
    intro k hk hd
    have hlt : k < ns.length := by omega
    have e := nums_at' hlt
    have hbad : dimB ns[k] = false → val_size [.sl 1 t (nums ns)] = .tup [.int .i64 0, .int .i64 2] := by
      intro hb
      have ha : ns.all dimB = false := by
        rw [List.all_eq_false]
        exact ⟨_, List.getElem_mem hlt, by simp [hb]⟩
      simp [val_size, sizeB, asInt_nums, ha, Nat.not_lt.2 h6]
    by_cases h1 : ns[k] < 0
    · refine size_h0_0 ns t k (by simp; omega) (by simp; omega) (by rw [e]; rfl) (by rw [e]; simpa [PV.cells, PV.asInt] using h1) (hbad ?_).symm
      simp [dimB]; omega
    · by_cases h2 : 4096 < ns[k]
      · refine size_h0_1 ns t k (by simp; omega) (by simp; omega) (by rw [e]; rfl) (by rw [e]; simpa [PV.cells, PV.asInt] using h1) (by rw [e]; simpa [PV.cells, PV.asInt] using h2) (hbad ?_).symm
        simp [dimB]; omega
      · refine size_h0_2 ns t k (by simp; omega) (by simp; omega) (by rw [e]; rfl) (by rw [e]; simpa [PV.cells, PV.asInt] using h1) (by rw [e]; simpa [PV.cells, PV.asInt] using h2) ?_
        rw [next (by omega)]
        refine ih (k + 1) (by omega) ?_
        intro j hj hjk
        by_cases he : j = k
        · subst he
          simp [dimB]; omega
        · exact hd j hj (by omega)
theorem size_run : ∀ ps, pre_size ps = true → Gets T_size 0 (fun st => fin st rs_size = some (val_size ps)) ic_size [] (st0 40 ps) := by
  intro ps hp
  unfold pre_size at hp
  split at hp
  · rename_i t xs
    obtain ⟨ns, rfl⟩ := nums_of hp
    by_cases h6 : 6 < ns.length
    · refine size_s_0 ns t (by simp; omega) ?_
      simp [val_size, sizeB, asInt_nums, h6]
    · refine size_s_1 ns t (by simp; omega) ?_
      exact size_loop0 ns t (by omega) ns.length 0 (by omega) (fun j hj h => by omega)
  · cases hp
end Go.Pl

namespace Go.Pl
open Go.RowKit
set_option maxRecDepth 100000
def ic_rsize : IC := (.seq (.reg [⟨(some 2), (.mv (.c (.int .i64 0))), 0, none⟩, ⟨(some 3), (.mv (.c (.int .i64 0))), 0, none⟩] none) (.seq (.seq (.reg [⟨(some 8), (.mv (.t 0)), 0, none⟩, ⟨(some 9), (.len 1 (.t 8)), 0, none⟩, ⟨(some 10), (.bin .num .gtr (.t 9) (.c (.int .i64 6))), 0, none⟩] none) (.cond (.t 10) (.seq (.reg [⟨(some 2), (.mv (.c (.int .i64 0))), 0, none⟩, ⟨(some 3), (.mv (.c (.int .i64 13))), 0, none⟩] none) .ret) .skip)) (.seq (.reg [⟨(some 4), (.mv (.c (.bool false))), 0, none⟩] none) (.seq (.seq (.reg [⟨(some 5), (.mv (.c (.int .i64 0))), 0, none⟩] none) (.block 0 (.loop [5, 0, 4] (.seq (.seq (.reg [⟨(some 11), (.mv (.t 5)), 0, none⟩, ⟨(some 12), (.mv (.t 0)), 0, none⟩, ⟨(some 13), (.len 1 (.t 12)), 0, none⟩, ⟨(some 14), (.bin .num .lss (.t 11) (.t 13)), 0, none⟩] none) (.cond (.t 14) .skip (.exit 0))) (.seq (.block 1 (.seq (.seq (.reg [⟨(some 17), (.mv (.t 0)), 0, none⟩, ⟨(some 18), (.mv (.t 5)), 0, none⟩, ⟨(some 19), (.iaddr 1 (.t 17) (.t 18)), 0, none⟩, ⟨(some 20), (.load false [(.int .i64)] (.t 19)), 0, none⟩, ⟨(some 21), (.bin .num .lss (.t 20) (.c (.int .i64 0))), 0, none⟩, ⟨(some 22), (.mv (.t 21)), 0, none⟩, ⟨(some 23), (.mv (.t 0)), 0, (some (22, false))⟩, ⟨(some 24), (.mv (.t 5)), 0, (some (22, false))⟩, ⟨(some 25), (.iaddr 1 (.t 23) (.t 24)), 0, (some (22, false))⟩, ⟨(some 26), (.load false [(.int .i64)] (.t 25)), 0, (some (22, false))⟩, ⟨(some 27), (.bin .num .gtr (.t 26) (.c (.int .i64 4096))), 0, (some (22, false))⟩, ⟨(some 28), (.pick (.t 22) (.c (.bool true)) (.t 27)), 0, none⟩] none) (.cond (.t 28) (.seq (.reg [⟨(some 2), (.mv (.c (.int .i64 0))), 0, none⟩, ⟨(some 3), (.mv (.c (.int .i64 2))), 0, none⟩] none) .ret) .skip)) (.reg [⟨(some 29), (.mv (.t 4)), 0, none⟩, ⟨(some 30), (.mv (.t 29)), 0, none⟩, ⟨(some 31), (.mv (.t 0)), 0, (some (30, false))⟩, ⟨(some 32), (.mv (.t 5)), 0, (some (30, false))⟩, ⟨(some 33), (.iaddr 1 (.t 31) (.t 32)), 0, (some (30, false))⟩, ⟨(some 34), (.load false [(.int .i64)] (.t 33)), 0, (some (30, false))⟩, ⟨(some 35), (.bin .num .eql (.t 34) (.c (.int .i64 0))), 0, (some (30, false))⟩, ⟨(some 36), (.pick (.t 30) (.c (.bool true)) (.t 35)), 0, none⟩, ⟨(some 4), (.mv (.t 36)), 0, none⟩] none))) (.reg [⟨(some 15), (.mv (.t 5)), 0, none⟩, ⟨(some 16), (.bin .num .add (.t 15) (.c (.int .i64 1))), 0, none⟩, ⟨(some 5), (.mv (.t 16)), 0, none⟩] none)))))) (.seq (.seq (.reg [⟨(some 37), (.mv (.t 4)), 0, none⟩] none) (.cond (.t 37) (.seq (.reg [⟨(some 2), (.mv (.c (.int .i64 0))), 0, none⟩, ⟨(some 3), (.mv (.c (.int .i64 0))), 0, none⟩] none) .ret) .skip)) (.seq (.reg [⟨(some 6), (.mv (.c (.int .i64 1))), 0, none⟩] none) (.seq (.seq (.reg [⟨(some 7), (.mv (.c (.int .i64 0))), 0, none⟩] none) (.block 2 (.loop [7, 0, 6] (.seq (.seq (.reg [⟨(some 38), (.mv (.t 7)), 0, none⟩, ⟨(some 39), (.mv (.t 0)), 0, none⟩, ⟨(some 40), (.len 1 (.t 39)), 0, none⟩, ⟨(some 41), (.bin .num .lss (.t 38) (.t 40)), 0, none⟩] none) (.cond (.t 41) .skip (.exit 2))) (.seq (.block 3 (.seq (.reg [⟨(some 44), (.mv (.t 6)), 0, none⟩, ⟨(some 45), (.mv (.t 0)), 0, none⟩, ⟨(some 46), (.mv (.t 7)), 0, none⟩, ⟨(some 47), (.iaddr 1 (.t 45) (.t 46)), 0, none⟩, ⟨(some 48), (.load false [(.int .i64)] (.t 47)), 0, none⟩, ⟨(some 49), (.bin .num .mul (.t 44) (.t 48)), 0, none⟩, ⟨(some 6), (.mv (.t 49)), 0, none⟩] none) (.seq (.reg [⟨(some 50), (.mv (.t 6)), 0, none⟩, ⟨(some 51), (.bin .num .gtr (.t 50) (.c (.int .i64 4096))), 0, none⟩] none) (.cond (.t 51) (.seq (.reg [⟨(some 2), (.mv (.c (.int .i64 0))), 0, none⟩, ⟨(some 3), (.mv (.c (.int .i64 3))), 0, none⟩] none) .ret) .skip)))) (.reg [⟨(some 42), (.mv (.t 7)), 0, none⟩, ⟨(some 43), (.bin .num .add (.t 42) (.c (.int .i64 1))), 0, none⟩, ⟨(some 7), (.mv (.t 43)), 0, none⟩] none)))))) (.seq (.reg [⟨(some 52), (.mv (.t 6)), 0, none⟩, ⟨(some 2), (.mv (.t 52)), 0, none⟩, ⟨(some 3), (.mv (.c (.int .i64 0))), 0, none⟩] none) .ret))))))))
def rs_rsize : List IRes := [(.tmp 2), (.tmp 3)]
def T_rsize : Tab := tab []
theorem rsize_s_0 {r : PV} (ns : List Int) (t : Bool) (h0 : (decide ((↑(nums ns).length : Int) > 6)) = true) (hr : (.tup [(.int .i64 0), (.int .i64 13)]) = r) : Gets T_rsize 0 (fun st => fin st rs_rsize = some r) ic_rsize [] (st0 53 [.sl 1 t (nums ns)]) := Gets.w (.lit (.ans true (.nil))) (And.intro h0 hr) (by kernel_rfl)
theorem rsize_s_1 {r : PV} (ns : List Int) (t : Bool) (h0 : (decide ((↑(nums ns).length : Int) > 6)) = false) (hn : At T_rsize 0 (fun st => fin st rs_rsize = some r) ic_rsize 0 53 [(0, (.pv (.sl 1 t (nums ns)))), (4, (.pv (.bool false))), (5, (.pv (.int .i64 0)))] []) : Gets T_rsize 0 (fun st => fin st rs_rsize = some r) ic_rsize [] (st0 53 [.sl 1 t (nums ns)]) := Gets.w (.lit (.ans false (.nil))) (And.intro h0 hn) (by kernel_rfl)
theorem rsize_h0_0 {r : PV} (ns : List Int) (t : Bool) (i : Int) (z : Bool) (h0 : (decide (i < (↑(nums ns).length : Int))) = true) (h1 : (decide (0 ≤ i) && decide (i.toNat < (nums ns).length) && 1 == 1) = true) (h2 : (decide (0 + [Sh.int .i64].length ≤ ((nums ns).getD i.toNat default).cells.length) && shFit ((nums ns).getD i.toNat default).cells 0 [Sh.int .i64]) = true) (h3 : (decide ((((nums ns).getD i.toNat default).cells.getD 0 default).asInt < 0)) = true) (hr : (.tup [(.int .i64 0), (.int .i64 2)]) = r) : At T_rsize 0 (fun st => fin st rs_rsize = some r) ic_rsize 0 53 [(0, .pv (.sl 1 t (nums ns))), (4, .pv (.bool z)), (5, .pv (.int .i64 i))] [] := At.w (.lit (.ans true (.req (.req (.lit (.ans true (.lit (.lit (.lit (.lit (.lit (.lit (.nil))))))))))))) (And.intro h0 (And.intro h1 (And.intro h2 (And.intro h3 hr)))) (by kernel_rfl)
theorem rsize_h0_1 {r : PV} (ns : List Int) (t : Bool) (i : Int) (z : Bool) (h0 : (decide (i < (↑(nums ns).length : Int))) = true) (h1 : (decide (0 ≤ i) && decide (i.toNat < (nums ns).length) && 1 == 1) = true) (h2 : (decide (0 + [Sh.int .i64].length ≤ ((nums ns).getD i.toNat default).cells.length) && shFit ((nums ns).getD i.toNat default).cells 0 [Sh.int .i64]) = true) (h3 : (decide ((((nums ns).getD i.toNat default).cells.getD 0 default).asInt < 0)) = false) (h4 : (decide ((((nums ns).getD i.toNat default).cells.getD 0 default).asInt > 4096)) = true) (hr : (.tup [(.int .i64 0), (.int .i64 2)]) = r) : At T_rsize 0 (fun st => fin st rs_rsize = some r) ic_rsize 0 53 [(0, .pv (.sl 1 t (nums ns))), (4, .pv (.bool z)), (5, .pv (.int .i64 i))] [] := At.w (.lit (.ans true (.req (.req (.lit (.ans false (.lit (.lit (.req (.lit (.req (.lit (.lit (.lit (.ans true (.nil)))))))))))))))) (And.intro h0 (And.intro h1 (And.intro h2 (And.intro h3 (And.intro h1 (And.intro h2 (And.intro h4 hr))))))) (by kernel_rfl)
theorem rsize_h0_2 {r : PV} (ns : List Int) (t : Bool) (i : Int) (z : Bool) (h0 : (decide (i < (↑(nums ns).length : Int))) = true) (h1 : (decide (0 ≤ i) && decide (i.toNat < (nums ns).length) && 1 == 1) = true) (h2 : (decide (0 + [Sh.int .i64].length ≤ ((nums ns).getD i.toNat default).cells.length) && shFit ((nums ns).getD i.toNat default).cells 0 [Sh.int .i64]) = true) (h3 : (decide ((((nums ns).getD i.toNat default).cells.getD 0 default).asInt < 0)) = false) (h4 : (decide ((((nums ns).getD i.toNat default).cells.getD 0 default).asInt > 4096)) = false) (h5 : (z) = true) (hn : At T_rsize 0 (fun st => fin st rs_rsize = some r) ic_rsize 0 53 [(0, (.pv (.sl 1 t (nums ns)))), (4, (.pv (.bool true))), (5, (.pv (.int .i64 (IntKind.i64.wrap (i + 1)))))] []) : At T_rsize 0 (fun st => fin st rs_rsize = some r) ic_rsize 0 53 [(0, .pv (.sl 1 t (nums ns))), (4, .pv (.bool z)), (5, .pv (.int .i64 i))] [] := At.w (.lit (.ans true (.req (.req (.lit (.ans false (.lit (.lit (.req (.lit (.req (.lit (.lit (.lit (.ans false (.ans true (.lit (.lit (.lit (.lit (.lit (.lit (.nil))))))))))))))))))))))) (And.intro h0 (And.intro h1 (And.intro h2 (And.intro h3 (And.intro h1 (And.intro h2 (And.intro h4 (And.intro h5 hn)))))))) (by kernel_rfl)
theorem rsize_h0_3 {r : PV} (ns : List Int) (t : Bool) (i : Int) (z : Bool) (h0 : (decide (i < (↑(nums ns).length : Int))) = true) (h1 : (decide (0 ≤ i) && decide (i.toNat < (nums ns).length) && 1 == 1) = true) (h2 : (decide (0 + [Sh.int .i64].length ≤ ((nums ns).getD i.toNat default).cells.length) && shFit ((nums ns).getD i.toNat default).cells 0 [Sh.int .i64]) = true) (h3 : (decide ((((nums ns).getD i.toNat default).cells.getD 0 default).asInt < 0)) = false) (h4 : (decide ((((nums ns).getD i.toNat default).cells.getD 0 default).asInt > 4096)) = false) (h5 : (z) = false) (hn : At T_rsize 0 (fun st => fin st rs_rsize = some r) ic_rsize 0 53 [(0, (.pv (.sl 1 t (nums ns)))), (4, (.pv (.bool ((((nums ns).getD i.toNat default).cells.getD 0 default).asInt == 0)))), (5, (.pv (.int .i64 (IntKind.i64.wrap (i + 1)))))] []) : At T_rsize 0 (fun st => fin st rs_rsize = some r) ic_rsize 0 53 [(0, .pv (.sl 1 t (nums ns))), (4, .pv (.bool z)), (5, .pv (.int .i64 i))] [] := At.w (.lit (.ans true (.req (.req (.lit (.ans false (.lit (.lit (.req (.lit (.req (.lit (.lit (.lit (.ans false (.ans false (.lit (.lit (.req (.lit (.req (.lit (.lit (.lit (.lit (.nil)))))))))))))))))))))))))) (And.intro h0 (And.intro h1 (And.intro h2 (And.intro h3 (And.intro h1 (And.intro h2 (And.intro h4 (And.intro h5 (And.intro h1 (And.intro h2 hn)))))))))) (by kernel_rfl)
theorem rsize_h0_4 {r : PV} (ns : List Int) (t : Bool) (i : Int) (z : Bool) (h0 : (decide (i < (↑(nums ns).length : Int))) = false) (h1 : (z) = true) (hr : (.tup [(.int .i64 0), (.int .i64 0)]) = r) : At T_rsize 0 (fun st => fin st rs_rsize = some r) ic_rsize 0 53 [(0, .pv (.sl 1 t (nums ns))), (4, .pv (.bool z)), (5, .pv (.int .i64 i))] [] := At.w (.lit (.ans false (.ans true (.nil)))) (And.intro h0 (And.intro h1 hr)) (by kernel_rfl)
theorem rsize_h0_5 {r : PV} (ns : List Int) (t : Bool) (i : Int) (z : Bool) (h0 : (decide (i < (↑(nums ns).length : Int))) = false) (h1 : (z) = false) (hn : At T_rsize 0 (fun st => fin st rs_rsize = some r) ic_rsize 1 53 [(0, (.pv (.sl 1 t (nums ns)))), (6, (.pv (.int .i64 1))), (7, (.pv (.int .i64 0)))] []) : At T_rsize 0 (fun st => fin st rs_rsize = some r) ic_rsize 0 53 [(0, .pv (.sl 1 t (nums ns))), (4, .pv (.bool z)), (5, .pv (.int .i64 i))] [] := At.w (.lit (.ans false (.ans false (.nil)))) (And.intro h0 (And.intro h1 hn)) (by kernel_rfl)
theorem rsize_h1_0 {r : PV} (ns : List Int) (t : Bool) (i n : Int) (h0 : (decide (i < (↑(nums ns).length : Int))) = true) (h1 : (decide (0 ≤ i) && decide (i.toNat < (nums ns).length) && 1 == 1) = true) (h2 : (decide (0 + [Sh.int .i64].length ≤ ((nums ns).getD i.toNat default).cells.length) && shFit ((nums ns).getD i.toNat default).cells 0 [Sh.int .i64]) = true) (h3 : (decide (IntKind.i64.wrap (n * (((nums ns).getD i.toNat default).cells.getD 0 default).asInt) > 4096)) = true) (hr : (.tup [(.int .i64 0), (.int .i64 3)]) = r) : At T_rsize 0 (fun st => fin st rs_rsize = some r) ic_rsize 1 53 [(0, .pv (.sl 1 t (nums ns))), (6, .pv (.int .i64 n)), (7, .pv (.int .i64 i))] [] := At.w (.lit (.ans true (.req (.req (.lit (.lit (.ans true (.nil)))))))) (And.intro h0 (And.intro h1 (And.intro h2 (And.intro h3 hr)))) (by kernel_rfl)
theorem rsize_h1_1 {r : PV} (ns : List Int) (t : Bool) (i n : Int) (h0 : (decide (i < (↑(nums ns).length : Int))) = true) (h1 : (decide (0 ≤ i) && decide (i.toNat < (nums ns).length) && 1 == 1) = true) (h2 : (decide (0 + [Sh.int .i64].length ≤ ((nums ns).getD i.toNat default).cells.length) && shFit ((nums ns).getD i.toNat default).cells 0 [Sh.int .i64]) = true) (h3 : (decide (IntKind.i64.wrap (n * (((nums ns).getD i.toNat default).cells.getD 0 default).asInt) > 4096)) = false) (hn : At T_rsize 0 (fun st => fin st rs_rsize = some r) ic_rsize 1 53 [(0, (.pv (.sl 1 t (nums ns)))), (6, (.pv (.int .i64 (IntKind.i64.wrap (n * (((nums ns).getD i.toNat default).cells.getD 0 default).asInt))))), (7, (.pv (.int .i64 (IntKind.i64.wrap (i + 1)))))] []) : At T_rsize 0 (fun st => fin st rs_rsize = some r) ic_rsize 1 53 [(0, .pv (.sl 1 t (nums ns))), (6, .pv (.int .i64 n)), (7, .pv (.int .i64 i))] [] := At.w (.lit (.ans true (.req (.req (.lit (.lit (.ans false (.lit (.nil))))))))) (And.intro h0 (And.intro h1 (And.intro h2 (And.intro h3 hn)))) (by kernel_rfl)
theorem rsize_h1_2 {r : PV} (ns : List Int) (t : Bool) (i n : Int) (h0 : (decide (i < (↑(nums ns).length : Int))) = false) (hr : (.tup [(.int .i64 n), (.int .i64 0)]) = r) : At T_rsize 0 (fun st => fin st rs_rsize = some r) ic_rsize 1 53 [(0, .pv (.sl 1 t (nums ns))), (6, .pv (.int .i64 n)), (7, .pv (.int .i64 i))] [] := At.w (.lit (.ans false (.nil))) (And.intro h0 hr) (by kernel_rfl)
def ic_index : IC := (.seq (.reg [⟨(some 4), (.mv (.c (.int .i64 0))), 0, none⟩] none) (.seq (.seq (.reg [⟨(some 6), (.mv (.t 0)), 0, none⟩, ⟨(some 7), (.len 1 (.t 6)), 0, none⟩, ⟨(some 8), (.mv (.c (.int .i64 0))), 0, none⟩] none) (.block 0 (.loop [8, 7, 1, 0] (.seq (.reg [⟨(some 9), (.bin .num .lss (.t 8) (.t 7)), 0, none⟩] none) (.seq (.cond (.t 9) .skip (.exit 0)) (.seq (.block 1 (.seq (.reg [⟨(some 10), (.mv (.t 8)), 0, none⟩, ⟨(some 5), (.mv (.t 10)), 0, none⟩] none) (.seq (.reg [⟨(some 11), (.mv (.t 1)), 0, none⟩, ⟨(some 12), (.mv (.t 0)), 0, none⟩, ⟨(some 13), (.mv (.t 5)), 0, none⟩, ⟨(some 14), (.iaddr 1 (.t 12) (.t 13)), 0, none⟩, ⟨(some 15), (.load false [(.int .i64)] (.t 14)), 0, none⟩, ⟨(some 16), (.bin .num .eql (.t 11) (.t 15)), 0, none⟩] none) (.cond (.t 16) (.seq (.reg [⟨(some 17), (.mv (.t 5)), 0, none⟩, ⟨(some 4), (.mv (.t 17)), 0, none⟩] none) .ret) .skip)))) (.reg [⟨(some 18), (.bin .num .add (.t 8) (.c (.int .i64 1))), 0, none⟩, ⟨(some 8), (.mv (.t 18)), 0, none⟩] none))))))) (.seq (.reg [⟨(some 4), (.mv (.c (.int .i64 (-1)))), 0, none⟩] none) .ret)))
def rs_index : List IRes := [(.tmp 4)]
def T_index : Tab := tab []
theorem index_s_0 {r : PV} (ns : List Int) (t : Bool) (v : Int) (hn : At T_index 0 (fun st => fin st rs_index = some r) ic_index 0 19 [(0, (.pv (.sl 1 t (nums ns)))), (1, (.pv (.int .i64 v))), (7, (.pv (.int .i64 (↑(nums ns).length : Int)))), (8, (.pv (.int .i64 0)))] []) : Gets T_index 0 (fun st => fin st rs_index = some r) ic_index [] (st0 19 [.sl 1 t (nums ns), .int .i64 v]) := Gets.w (.nil) hn (by kernel_rfl)
theorem index_h0_0 {r : PV} (ns : List Int) (t : Bool) (v : Int) (i : Int) (h0 : (decide (i < (↑(nums ns).length : Int))) = true) (h1 : (decide (0 ≤ i) && decide (i.toNat < (nums ns).length) && 1 == 1) = true) (h2 : (decide (0 + [Sh.int .i64].length ≤ ((nums ns).getD i.toNat default).cells.length) && shFit ((nums ns).getD i.toNat default).cells 0 [Sh.int .i64]) = true) (h3 : (v == (((nums ns).getD i.toNat default).cells.getD 0 default).asInt) = true) (hr : (.int .i64 i) = r) : At T_index 0 (fun st => fin st rs_index = some r) ic_index 0 19 [(0, .pv (.sl 1 t (nums ns))), (1, .pv (.int .i64 v)), (7, .pv (.int .i64 (nums ns).length)), (8, .pv (.int .i64 i))] [] := At.w (.lit (.ans true (.req (.req (.lit (.ans true (.nil))))))) (And.intro h0 (And.intro h1 (And.intro h2 (And.intro h3 hr)))) (by kernel_rfl)
theorem index_h0_1 {r : PV} (ns : List Int) (t : Bool) (v : Int) (i : Int) (h0 : (decide (i < (↑(nums ns).length : Int))) = true) (h1 : (decide (0 ≤ i) && decide (i.toNat < (nums ns).length) && 1 == 1) = true) (h2 : (decide (0 + [Sh.int .i64].length ≤ ((nums ns).getD i.toNat default).cells.length) && shFit ((nums ns).getD i.toNat default).cells 0 [Sh.int .i64]) = true) (h3 : (v == (((nums ns).getD i.toNat default).cells.getD 0 default).asInt) = false) (hn : At T_index 0 (fun st => fin st rs_index = some r) ic_index 0 19 [(0, (.pv (.sl 1 t (nums ns)))), (1, (.pv (.int .i64 v))), (7, (.pv (.int .i64 (↑(nums ns).length : Int)))), (8, (.pv (.int .i64 (IntKind.i64.wrap (i + 1)))))] []) : At T_index 0 (fun st => fin st rs_index = some r) ic_index 0 19 [(0, .pv (.sl 1 t (nums ns))), (1, .pv (.int .i64 v)), (7, .pv (.int .i64 (nums ns).length)), (8, .pv (.int .i64 i))] [] := At.w (.lit (.ans true (.req (.req (.lit (.ans false (.lit (.nil)))))))) (And.intro h0 (And.intro h1 (And.intro h2 (And.intro h3 hn)))) (by kernel_rfl)
theorem index_h0_2 {r : PV} (ns : List Int) (t : Bool) (v : Int) (i : Int) (h0 : (decide (i < (↑(nums ns).length : Int))) = false) (hr : (.int .i64 (-1)) = r) : At T_index 0 (fun st => fin st rs_index = some r) ic_index 0 19 [(0, .pv (.sl 1 t (nums ns))), (1, .pv (.int .i64 v)), (7, .pv (.int .i64 (nums ns).length)), (8, .pv (.int .i64 i))] [] := At.w (.lit (.ans false (.nil))) (And.intro h0 hr) (by kernel_rfl)
def ic_ints : IC := (.seq (.reg [⟨(some 4), (.mv (.c (.bool false))), 0, none⟩] none) (.seq (.seq (.reg [⟨(some 6), (.mv (.t 0)), 0, none⟩, ⟨(some 7), (.len 1 (.t 6)), 0, none⟩, ⟨(some 8), (.mv (.t 1)), 0, none⟩, ⟨(some 9), (.len 1 (.t 8)), 0, none⟩, ⟨(some 10), (.bin .num .neq (.t 7) (.t 9)), 0, none⟩] none) (.cond (.t 10) (.seq (.reg [⟨(some 4), (.mv (.c (.bool false))), 0, none⟩] none) .ret) .skip)) (.seq (.seq (.reg [⟨(some 5), (.mv (.c (.int .i64 0))), 0, none⟩] none) (.block 0 (.loop [5, 0, 1] (.seq (.seq (.reg [⟨(some 11), (.mv (.t 5)), 0, none⟩, ⟨(some 12), (.mv (.t 0)), 0, none⟩, ⟨(some 13), (.len 1 (.t 12)), 0, none⟩, ⟨(some 14), (.bin .num .lss (.t 11) (.t 13)), 0, none⟩] none) (.cond (.t 14) .skip (.exit 0))) (.seq (.block 1 (.seq (.reg [⟨(some 17), (.mv (.t 0)), 0, none⟩, ⟨(some 18), (.mv (.t 5)), 0, none⟩, ⟨(some 19), (.iaddr 1 (.t 17) (.t 18)), 0, none⟩, ⟨(some 20), (.load false [(.int .i64)] (.t 19)), 0, none⟩, ⟨(some 21), (.mv (.t 1)), 0, none⟩, ⟨(some 22), (.mv (.t 5)), 0, none⟩, ⟨(some 23), (.iaddr 1 (.t 21) (.t 22)), 0, none⟩, ⟨(some 24), (.load false [(.int .i64)] (.t 23)), 0, none⟩, ⟨(some 25), (.bin .num .neq (.t 20) (.t 24)), 0, none⟩] (some [[], [], [0, 1], [2, 0, 1], [], [], [4, 5], [6, 4, 5], [3, 7, 2, 0, 1, 6, 4, 5]])) (.cond (.t 25) (.seq (.reg [⟨(some 4), (.mv (.c (.bool false))), 0, none⟩] none) .ret) .skip))) (.reg [⟨(some 15), (.mv (.t 5)), 0, none⟩, ⟨(some 16), (.bin .num .add (.t 15) (.c (.int .i64 1))), 0, none⟩, ⟨(some 5), (.mv (.t 16)), 0, none⟩] none)))))) (.seq (.reg [⟨(some 4), (.mv (.c (.bool true))), 0, none⟩] none) .ret))))
def rs_ints : List IRes := [(.tmp 4)]
def T_ints : Tab := tab []
theorem ints_s_0 {r : PV} (ns ms : List Int) (t u : Bool) (h0 : ((↑(nums ns).length : Int) != (↑(nums ms).length : Int)) = true) (hr : (.bool false) = r) : Gets T_ints 0 (fun st => fin st rs_ints = some r) ic_ints [] (st0 26 [.sl 1 t (nums ns), .sl 1 u (nums ms)]) := Gets.w (.lit (.ans true (.nil))) (And.intro h0 hr) (by kernel_rfl)
theorem ints_s_1 {r : PV} (ns ms : List Int) (t u : Bool) (h0 : ((↑(nums ns).length : Int) != (↑(nums ms).length : Int)) = false) (hn : At T_ints 0 (fun st => fin st rs_ints = some r) ic_ints 0 26 [(0, (.pv (.sl 1 t (nums ns)))), (1, (.pv (.sl 1 u (nums ms)))), (5, (.pv (.int .i64 0)))] []) : Gets T_ints 0 (fun st => fin st rs_ints = some r) ic_ints [] (st0 26 [.sl 1 t (nums ns), .sl 1 u (nums ms)]) := Gets.w (.lit (.ans false (.nil))) (And.intro h0 hn) (by kernel_rfl)
theorem ints_h0_0 {r : PV} (ns ms : List Int) (t u : Bool) (i : Int) (h0 : (decide (i < (↑(nums ns).length : Int))) = true) (h1 : (decide (0 ≤ i) && decide (i.toNat < (nums ns).length) && 1 == 1) = true) (h2 : (decide (0 + [Sh.int .i64].length ≤ ((nums ns).getD i.toNat default).cells.length) && shFit ((nums ns).getD i.toNat default).cells 0 [Sh.int .i64]) = true) (h3 : (decide (0 ≤ i) && decide (i.toNat < (nums ms).length) && 1 == 1) = true) (h4 : (decide (0 + [Sh.int .i64].length ≤ ((nums ms).getD i.toNat default).cells.length) && shFit ((nums ms).getD i.toNat default).cells 0 [Sh.int .i64]) = true) (h5 : ((((nums ns).getD i.toNat default).cells.getD 0 default).asInt != (((nums ms).getD i.toNat default).cells.getD 0 default).asInt) = true) (hr : (.bool false) = r) : At T_ints 0 (fun st => fin st rs_ints = some r) ic_ints 0 26 [(0, .pv (.sl 1 t (nums ns))), (1, .pv (.sl 1 u (nums ms))), (5, .pv (.int .i64 i))] [] := At.w (.lit (.ans true (.req (.req (.req (.req (.lit (.ans true (.nil))))))))) (And.intro h0 (And.intro h1 (And.intro h2 (And.intro h3 (And.intro h4 (And.intro h5 hr)))))) (by kernel_rfl)
theorem ints_h0_1 {r : PV} (ns ms : List Int) (t u : Bool) (i : Int) (h0 : (decide (i < (↑(nums ns).length : Int))) = true) (h1 : (decide (0 ≤ i) && decide (i.toNat < (nums ns).length) && 1 == 1) = true) (h2 : (decide (0 + [Sh.int .i64].length ≤ ((nums ns).getD i.toNat default).cells.length) && shFit ((nums ns).getD i.toNat default).cells 0 [Sh.int .i64]) = true) (h3 : (decide (0 ≤ i) && decide (i.toNat < (nums ms).length) && 1 == 1) = true) (h4 : (decide (0 + [Sh.int .i64].length ≤ ((nums ms).getD i.toNat default).cells.length) && shFit ((nums ms).getD i.toNat default).cells 0 [Sh.int .i64]) = true) (h5 : ((((nums ns).getD i.toNat default).cells.getD 0 default).asInt != (((nums ms).getD i.toNat default).cells.getD 0 default).asInt) = false) (hn : At T_ints 0 (fun st => fin st rs_ints = some r) ic_ints 0 26 [(0, (.pv (.sl 1 t (nums ns)))), (1, (.pv (.sl 1 u (nums ms)))), (5, (.pv (.int .i64 (IntKind.i64.wrap (i + 1)))))] []) : At T_ints 0 (fun st => fin st rs_ints = some r) ic_ints 0 26 [(0, .pv (.sl 1 t (nums ns))), (1, .pv (.sl 1 u (nums ms))), (5, .pv (.int .i64 i))] [] := At.w (.lit (.ans true (.req (.req (.req (.req (.lit (.ans false (.lit (.nil)))))))))) (And.intro h0 (And.intro h1 (And.intro h2 (And.intro h3 (And.intro h4 (And.intro h5 hn)))))) (by kernel_rfl)
theorem ints_h0_2 {r : PV} (ns ms : List Int) (t u : Bool) (i : Int) (h0 : (decide (i < (↑(nums ns).length : Int))) = false) (hr : (.bool true) = r) : At T_ints 0 (fun st => fin st rs_ints = some r) ic_ints 0 26 [(0, .pv (.sl 1 t (nums ns))), (1, .pv (.sl 1 u (nums ms))), (5, .pv (.int .i64 i))] [] := At.w (.lit (.ans false (.nil))) (And.intro h0 hr) (by kernel_rfl)
def ic_copy : IC := (.seq (.reg [⟨(some 2), (.mv (.c (.sl 0 true []))), 0, none⟩] none) (.seq (.reg [⟨(some 3), (.bslice 3 1 0 (.int .i64 0) []), 0, none⟩, ⟨(some 4), (.mv (.t 0)), 1, none⟩, ⟨(some 5), (.append 3 1 8 (.t 3) (.t 4)), 1, none⟩, ⟨(some 2), (.mv (.t 5)), 2, none⟩] none) .ret))
def rs_copy : List IRes := [(.tmp 2)]
def T_copy : Tab := tab []
theorem copy_s_0 {r : PV} (ns : List Int) (t : Bool) (h0 : ((nums ns).isEmpty || 1 == 1) = true) (h1 : (([] : List PV).length == 0 && 0 == 0 && decide ((0 + (nums ns).length) * 8 ≤ 1099511627776) && decide (0 + (nums ns).length ≤ 1099511627776)) = true) (h2 : ((([] : List PV) ++ nums ns).length == 0 + (nums ns).length) = true) (hr : (.sl 1 false (List.drop 0 (List.take (0 + (nums ns).length) (([] : List PV) ++ nums ns)))) = r) : Gets T_copy 0 (fun st => fin st rs_copy = some r) ic_copy [] (st0 6 [.sl 1 t (nums ns)]) := Gets.w (.lit (.req (.req (.req (.nil))))) (And.intro h0 (And.intro h1 (And.intro h2 hr))) (by kernel_rfl)
def ic_formed : IC := (.seq (.reg [⟨(some 1), (.box 3 (.t 0)), 0, none⟩, ⟨(some 2), (.mv (.c (.bool false))), 1, none⟩] none) (.seq (.reg [⟨(some 6), (.faddr 1 (.t 1)), 0, none⟩, ⟨(some 7), (.load false [(.sl 1)] (.t 6)), 0, none⟩, ⟨(some 8), (.call (.c (.fn 73)) [(.t 7)]), 0, none⟩, ⟨(some 5), (.mv (.t 8)), 2, none⟩, ⟨(some 9), (.extract (.t 5) 0), 2, none⟩, ⟨(some 10), (.extract (.t 5) 1), 2, none⟩, ⟨(some 3), (.mv (.t 9)), 2, none⟩, ⟨(some 4), (.mv (.t 10)), 2, none⟩] none) (.seq (.reg [⟨(some 11), (.mv (.t 4)), 0, none⟩, ⟨(some 12), (.bin .num .eql (.t 11) (.c (.int .i64 0))), 0, none⟩, ⟨(some 13), (.mv (.t 12)), 0, none⟩, ⟨(some 14), (.faddr 2 (.t 1)), 0, (some (13, true))⟩, ⟨(some 15), (.load false [(.sl 1)] (.t 14)), 0, (some (13, true))⟩, ⟨(some 16), (.len 1 (.t 15)), 0, (some (13, true))⟩, ⟨(some 17), (.faddr 1 (.t 1)), 0, (some (13, true))⟩, ⟨(some 18), (.load false [(.sl 1)] (.t 17)), 0, (some (13, true))⟩, ⟨(some 19), (.len 1 (.t 18)), 0, (some (13, true))⟩, ⟨(some 20), (.bin .num .eql (.t 16) (.t 19)), 0, (some (13, true))⟩, ⟨(some 21), (.pick (.t 13) (.t 20) (.c (.bool false))), 0, none⟩, ⟨(some 2), (.mv (.t 21)), 0, none⟩] none) .ret)))
def rs_formed : List IRes := [(.tmp 2)]
def T_formed : Tab := tab [(35, .pure pre_size val_size), (73, .pure pre_size val_size)]
theorem formed_s_0 {r : PV} (o : Int) (d s : List Int) (t u : Bool) (h0 : (pre_size [(.sl 1 t (nums d))]) = true) (h1 : ((sizeB (List.map PV.asInt (nums d))).snd == 0) = true) (hr : (.bool ((↑(nums s).length : Int) == (↑(nums d).length : Int))) = r) : Gets T_formed 0 (fun st => fin st rs_formed = some r) ic_formed [] (st0 22 [(.agg [.int .i64 o, .sl 1 t (nums d), .sl 1 u (nums s)])]) := Gets.w (.req (.lit (.ans true (.lit (.lit (.lit (.lit (.lit (.lit (.lit (.lit (.nil)))))))))))) (And.intro h0 (And.intro h1 hr)) (by kernel_rfl)
theorem formed_s_1 {r : PV} (o : Int) (d s : List Int) (t u : Bool) (h0 : (pre_size [(.sl 1 t (nums d))]) = true) (h1 : ((sizeB (List.map PV.asInt (nums d))).snd == 0) = false) (hr : (.bool false) = r) : Gets T_formed 0 (fun st => fin st rs_formed = some r) ic_formed [] (st0 22 [(.agg [.int .i64 o, .sl 1 t (nums d), .sl 1 u (nums s)])]) := Gets.w (.req (.lit (.ans false (.lit (.lit (.lit (.lit (.lit (.lit (.lit (.nil))))))))))) (And.intro h0 (And.intro h1 hr)) (by kernel_rfl)
def ic_form : IC := (.seq (.reg [⟨(some 1), (.box 3 (.t 0)), 0, none⟩, ⟨(some 2), (.mv (.c (.int .i64 0))), 1, none⟩] none) (.seq (.seq (.reg [⟨(some 6), (.faddr 1 (.t 1)), 0, none⟩, ⟨(some 7), (.load false [(.sl 1)] (.t 6)), 0, none⟩, ⟨(some 8), (.call (.c (.fn 35)) [(.t 7)]), 0, none⟩, ⟨(some 5), (.mv (.t 8)), 2, none⟩, ⟨(some 9), (.extract (.t 5) 0), 2, none⟩, ⟨(some 10), (.extract (.t 5) 1), 2, none⟩, ⟨(some 3), (.mv (.t 9)), 2, none⟩, ⟨(some 4), (.mv (.t 10)), 2, none⟩] none) (.seq (.reg [⟨(some 11), (.mv (.t 4)), 0, none⟩, ⟨(some 12), (.bin .num .neq (.t 11) (.c (.int .i64 0))), 0, none⟩, ⟨(some 13), (.mv (.t 12)), 0, none⟩, ⟨(some 14), (.faddr 2 (.t 1)), 0, (some (13, false))⟩, ⟨(some 15), (.load false [(.sl 1)] (.t 14)), 0, (some (13, false))⟩, ⟨(some 16), (.len 1 (.t 15)), 0, (some (13, false))⟩, ⟨(some 17), (.faddr 1 (.t 1)), 0, (some (13, false))⟩, ⟨(some 18), (.load false [(.sl 1)] (.t 17)), 0, (some (13, false))⟩, ⟨(some 19), (.len 1 (.t 18)), 0, (some (13, false))⟩, ⟨(some 20), (.bin .num .neq (.t 16) (.t 19)), 0, (some (13, false))⟩, ⟨(some 21), (.pick (.t 13) (.c (.bool true)) (.t 20)), 0, none⟩] none) (.cond (.t 21) (.seq (.reg [⟨(some 2), (.mv (.c (.int .i64 1))), 0, none⟩] none) .ret) .skip))) (.seq (.reg [⟨(some 2), (.mv (.c (.int .i64 0))), 0, none⟩] none) .ret)))
def rs_form : List IRes := [(.tmp 2)]
def T_form : Tab := tab [(35, .pure pre_size val_size), (73, .pure pre_size val_size)]
theorem form_s_0 {r : PV} (o : Int) (d s : List Int) (t u : Bool) (h0 : (pre_size [(.sl 1 t (nums d))]) = true) (h1 : ((sizeB (List.map PV.asInt (nums d))).snd != 0) = true) (hr : (.int .i64 1) = r) : Gets T_form 0 (fun st => fin st rs_form = some r) ic_form [] (st0 22 [(.agg [.int .i64 o, .sl 1 t (nums d), .sl 1 u (nums s)])]) := Gets.w (.req (.lit (.ans true (.lit (.lit (.lit (.lit (.lit (.lit (.lit (.lit (.nil)))))))))))) (And.intro h0 (And.intro h1 hr)) (by kernel_rfl)
theorem form_s_1 {r : PV} (o : Int) (d s : List Int) (t u : Bool) (h0 : (pre_size [(.sl 1 t (nums d))]) = true) (h1 : ((sizeB (List.map PV.asInt (nums d))).snd != 0) = false) (h2 : ((↑(nums s).length : Int) != (↑(nums d).length : Int)) = true) (hr : (.int .i64 1) = r) : Gets T_form 0 (fun st => fin st rs_form = some r) ic_form [] (st0 22 [(.agg [.int .i64 o, .sl 1 t (nums d), .sl 1 u (nums s)])]) := Gets.w (.req (.lit (.ans false (.lit (.lit (.lit (.lit (.lit (.lit (.lit (.lit (.ans true (.nil))))))))))))) (And.intro h0 (And.intro h1 (And.intro h2 hr))) (by kernel_rfl)
theorem form_s_2 {r : PV} (o : Int) (d s : List Int) (t u : Bool) (h0 : (pre_size [(.sl 1 t (nums d))]) = true) (h1 : ((sizeB (List.map PV.asInt (nums d))).snd != 0) = false) (h2 : ((↑(nums s).length : Int) != (↑(nums d).length : Int)) = false) (hr : (.int .i64 0) = r) : Gets T_form 0 (fun st => fin st rs_form = some r) ic_form [] (st0 22 [(.agg [.int .i64 o, .sl 1 t (nums d), .sl 1 u (nums s)])]) := Gets.w (.req (.lit (.ans false (.lit (.lit (.lit (.lit (.lit (.lit (.lit (.lit (.ans false (.nil))))))))))))) (And.intro h0 (And.intro h1 (And.intro h2 hr))) (by kernel_rfl)
end Go.Pl

namespace Go.Pl
open Go.RowKit
theorem rsize_loop1 {r : PV} (ns : List Int) (t : Bool) (h6 : ns.length ≤ 6) (ha : ns.all dimB = true) : ∀ (m k : Nat) (n : Int), m + k = ns.length → 0 ≤ n → n ≤ 4096 →
    r = (match prodB n (ns.drop k) with | some n => .tup [.int .i64 n, .int .i64 0] | none => .tup [.int .i64 0, .int .i64 3]) →
    At T_rsize 0 (fun st => fin st rs_rsize = some r) ic_rsize 1 53 [(0, .pv (.sl 1 t (nums ns))), (6, .pv (.int .i64 n)), (7, .pv (.int .i64 k))] [] := by
  intro m
  induction m with
  | zero =>
    intro k n hk h0 h1 hr
    have : ns.drop k = [] := List.drop_of_length_le (by omega)
    rw [this] at hr
    exact rsize_h1_2 ns t k n (by simp; omega) hr.symm
  | succ m ih =>
    intro k n hk h0 h1 hr
    have hlt : k < ns.length := by omega
    have hd : 0 ≤ ns[k] ∧ ns[k] ≤ 4096 := by
      have := List.all_eq_true.1 ha _ (List.getElem_mem hlt)
      simpa [dimB] using this
    have hp : 0 ≤ n * ns[k] ∧ n * ns[k] ≤ 4096 * 4096 := ⟨Int.mul_nonneg h0 hd.1, Int.mul_le_mul h1 hd.2 hd.1 (by omega)⟩
    have hw : IntKind.i64.wrap (n * ns[k]) = n * ns[k] := wrap64 (by omega) (by omega)
    rw [List.drop_eq_getElem_cons hlt, prodB] at hr
    have e := nums_at' hlt
    by_cases hb : 4096 < n * ns[k]
    · simp only [hb, decide_true, cond_true] at hr
      refine rsize_h1_0 ns t k n (by simp; omega) (by simp; omega) (by rw [e]; rfl) ?_ hr.symm
      rw [e]
      simpa [PV.cells, PV.asInt, hw] using hb
    · simp only [hb, decide_false, cond_false] at hr
      refine rsize_h1_1 ns t k n (by simp; omega) (by simp; omega) (by rw [e]; rfl) ?_ ?_
      · rw [e]
        simpa [PV.cells, PV.asInt, hw] using Int.not_lt.1 hb
      · rw [e, next (by omega)]
        simp only [PV.cells, List.getD_cons_zero, PV.asInt, hw]
        exact ih (k + 1) (n * ns[k]) (by omega) hp.1 (by omega) hr
theorem rsize_loop0 (ns : List Int) (t : Bool) (h6 : ns.length ≤ 6) : ∀ (m k : Nat) (z : Bool), m + k = ns.length → (∀ j (hj : j < ns.length), j < k → dimB ns[j] = true) → z = (ns.take k).any (· == 0) →
    At T_rsize 0 (fun st => fin st rs_rsize = some (val_size [.sl 1 t (nums ns)])) ic_rsize 0 53 [(0, .pv (.sl 1 t (nums ns))), (4, .pv (.bool z)), (5, .pv (.int .i64 k))] [] := by
  intro m
  induction m with
  | zero =>
    intro k z hk hd hz
    have ha : ns.all dimB = true := by
      rw [List.all_eq_true]
      intro x hx
      obtain ⟨j, hj, rfl⟩ := List.getElem_of_mem hx
      exact hd j hj (by omega)
    rw [List.take_of_length_le (by omega)] at hz
    cases z with
    | true =>
      refine rsize_h0_4 ns t k _ (by simp; omega) rfl ?_
      simp [val_size, sizeB, asInt_nums, ha, ← hz, Nat.not_lt.2 h6]
    | false =>
      refine rsize_h0_5 ns t k _ (by simp; omega) rfl ?_
      refine rsize_loop1 ns t h6 ha ns.length 0 1 (by omega) (by omega) (by omega) ?_
      simp only [val_size, sizeB, asInt_nums, ha, ← hz, Nat.not_lt.2 h6, decide_false, cond_false, cond_true, List.drop_zero]
      cases prodB 1 ns <;> rfl
  | succ m ih =>
    intro k z hk hd hz
    have hlt : k < ns.length := by omega
    have e := nums_at' hlt
    have hbad : dimB ns[k] = false → val_size [.sl 1 t (nums ns)] = .tup [.int .i64 0, .int .i64 2] := by
      intro hb
      have ha : ns.all dimB = false := by
        rw [List.all_eq_false]
        exact ⟨_, List.getElem_mem hlt, by simp [hb]⟩
      simp [val_size, sizeB, asInt_nums, ha, Nat.not_lt.2 h6]
    have hn : (ns.take (k + 1)).any (· == 0) = (z || ns[k] == 0) := by
      rw [List.take_succ_eq_append_getElem hlt, List.any_append, hz]; simp
    have hd' : dimB ns[k] = true → ∀ j (hj : j < ns.length), j < k + 1 → dimB ns[j] = true := by
      intro hb j hj hjk
      by_cases he : j = k
      · subst he; exact hb
      · exact hd j hj (by omega)
    by_cases h1 : ns[k] < 0
    · refine rsize_h0_0 ns t k z (by simp; omega) (by simp; omega) (by rw [e]; rfl) (by rw [e]; simpa [PV.cells, PV.asInt] using h1) (hbad ?_).symm
      simp [dimB]; omega
    · by_cases h2 : 4096 < ns[k]
      · refine rsize_h0_1 ns t k z (by simp; omega) (by simp; omega) (by rw [e]; rfl) (by rw [e]; simpa [PV.cells, PV.asInt] using h1) (by rw [e]; simpa [PV.cells, PV.asInt] using h2) (hbad ?_).symm
        simp [dimB]; omega
      · have hb : dimB ns[k] = true := by simp [dimB]; omega
        cases z with
        | true =>
          refine rsize_h0_2 ns t k true (by simp; omega) (by simp; omega) (by rw [e]; rfl) (by rw [e]; simpa [PV.cells, PV.asInt] using h1) (by rw [e]; simpa [PV.cells, PV.asInt] using h2) rfl ?_
          rw [next (by omega)]
          exact ih (k + 1) true (by omega) (hd' hb) (by rw [hn]; rfl)
        | false =>
          refine rsize_h0_3 ns t k false (by simp; omega) (by simp; omega) (by rw [e]; rfl) (by rw [e]; simpa [PV.cells, PV.asInt] using h1) (by rw [e]; simpa [PV.cells, PV.asInt] using h2) rfl ?_
          rw [next (by omega), e]
          exact ih (k + 1) _ (by omega) (hd' hb) (by rw [hn]; rfl)
theorem rsize_run : ∀ ps, pre_size ps = true → Gets T_rsize 0 (fun st => fin st rs_rsize = some (val_size ps)) ic_rsize [] (st0 53 ps) := by
  intro ps hp
  unfold pre_size at hp
  split at hp
  · rename_i t xs
    obtain ⟨ns, rfl⟩ := nums_of hp
    by_cases h6 : 6 < ns.length
    · refine rsize_s_0 ns t (by simp; omega) ?_
      simp [val_size, sizeB, asInt_nums, h6]
    · refine rsize_s_1 ns t (by simp; omega) ?_
      exact rsize_loop0 ns t (by omega) ns.length 0 false (by omega) (fun j hj h => by omega) (by simp)
  · cases hp
def idxB (v : Int) : List Int → Nat → Int
  | [], _ => -1
  | n :: r, i => bif v == n then i else idxB v r (i + 1)
theorem idxB_any {v : Int} : ∀ {l : List Int} {i : Nat}, decide (0 ≤ idxB v l i) = l.any (· == v) := by
  intro l
  induction l with
  | nil => intro i; rfl
  | cons n r ih =>
    intro i
    simp only [idxB, List.any_cons]
    by_cases h : v = n
    · subst h; simp
    · have h1 : (v == n) = false := by simpa using h
      have h2 : (n == v) = false := by simp; omega
      simp only [h1, h2, cond_false, Bool.false_or]
      exact ih
def val_index : List PV → PV
  | [.sl _ _ xs, .int _ v] => .int .i64 (idxB v (xs.map PV.asInt) 0)
  | _ => .nilp
theorem index_loop (ns : List Int) (t : Bool) (v : Int) (hl : ns.length ≤ 1099511627776) {r : PV} : ∀ (m k : Nat), m + k = ns.length → r = .int .i64 (idxB v (ns.drop k) k) →
    At T_index 0 (fun st => fin st rs_index = some r) ic_index 0 19 [(0, .pv (.sl 1 t (nums ns))), (1, .pv (.int .i64 v)), (7, .pv (.int .i64 (nums ns).length)), (8, .pv (.int .i64 k))] [] := by
  intro m
  induction m with
  | zero =>
    intro k hk hr
    rw [List.drop_of_length_le (by omega)] at hr
    exact index_h0_2 ns t v k (by simp; omega) hr.symm
  | succ m ih =>
    intro k hk hr
    have hlt : k < ns.length := by omega
    have e := nums_at' hlt
    rw [List.drop_eq_getElem_cons hlt, idxB] at hr
    cases hb : v == ns[k] with
    | true =>
      rw [hb, cond_true] at hr
      exact index_h0_0 ns t v k (by simp; omega) (by simp; omega) (by rw [e]; rfl) (by rw [e]; exact hb) hr.symm
    | false =>
      rw [hb, cond_false] at hr
      refine index_h0_1 ns t v k (by simp; omega) (by simp; omega) (by rw [e]; rfl) (by rw [e]; exact hb) ?_
      rw [next (by omega)]
      exact ih (k + 1) (by omega) hr
theorem index_run : ∀ ps, pre_contains ps = true → Gets T_index 0 (fun st => fin st rs_index = some (val_index ps)) ic_index [] (st0 19 ps) := by
  intro ps hp
  unfold pre_contains at hp
  split at hp
  · rename_i t xs v
    simp only [Bool.and_eq_true, decide_eq_true_eq] at hp
    obtain ⟨ns, rfl⟩ := nums_of hp.1
    refine index_s_0 ns t v ?_
    exact index_loop ns t v (by have := hp.2; rwa [nums_length] at this) ns.length 0 (by omega) (by simp [val_index])
  · cases hp
def val_ints : List PV → PV
  | [.sl _ _ xs, .sl _ _ ys] => .bool (decide (xs.map PV.asInt = ys.map PV.asInt))
  | _ => .nilp
def pre_ints : List PV → Bool
  | [.sl 1 _ xs, .sl 1 _ ys] => xs.all PV.isNum && ys.all PV.isNum && decide (xs.length ≤ 1099511627776)
  | _ => false
theorem ints_loop (ns ms : List Int) (t u : Bool) (hl : ns.length ≤ 1099511627776) (he : ns.length = ms.length) {r : PV} : ∀ (m k : Nat), m + k = ns.length → r = .bool (decide (ns.drop k = ms.drop k)) →
    At T_ints 0 (fun st => fin st rs_ints = some r) ic_ints 0 26 [(0, .pv (.sl 1 t (nums ns))), (1, .pv (.sl 1 u (nums ms))), (5, .pv (.int .i64 k))] [] := by
  intro m
  induction m with
  | zero =>
    intro k hk hr
    rw [List.drop_of_length_le (by omega), List.drop_of_length_le (by omega)] at hr
    exact ints_h0_2 ns ms t u k (by simp; omega) hr.symm
  | succ m ih =>
    intro k hk hr
    have hlt : k < ns.length := by omega
    have hlt2 : k < ms.length := by omega
    have e := nums_at' hlt
    have e2 := nums_at' hlt2
    rw [List.drop_eq_getElem_cons hlt, List.drop_eq_getElem_cons hlt2] at hr
    by_cases hb : ns[k] = ms[k]
    · refine ints_h0_1 ns ms t u k (by simp; omega) (by simp; omega) (by rw [e]; rfl) (by simp; omega) (by rw [e2]; rfl) (by rw [e, e2]; simpa [PV.cells, PV.asInt] using hb) ?_
      rw [next (by omega)]
      refine ih (k + 1) (by omega) ?_
      rw [hr, hb]
      simp only [List.cons.injEq, true_and]
    · refine ints_h0_0 ns ms t u k (by simp; omega) (by simp; omega) (by rw [e]; rfl) (by simp; omega) (by rw [e2]; rfl) (by rw [e, e2]; simpa [PV.cells, PV.asInt] using hb) ?_
      rw [hr]
      simp only [List.cons.injEq, hb, false_and, decide_false]
theorem ints_run : ∀ ps, pre_ints ps = true → Gets T_ints 0 (fun st => fin st rs_ints = some (val_ints ps)) ic_ints [] (st0 26 ps) := by
  intro ps hp
  unfold pre_ints at hp
  split at hp
  · rename_i t xs u ys
    simp only [Bool.and_eq_true, decide_eq_true_eq] at hp
    obtain ⟨⟨h1, h2⟩, h3⟩ := hp
    obtain ⟨ns, rfl⟩ := nums_of h1
    obtain ⟨ms, rfl⟩ := nums_of h2
    rw [nums_length] at h3
    by_cases he : ns.length = ms.length
    · refine ints_s_1 ns ms t u (by simp; omega) ?_
      exact ints_loop ns ms t u h3 he ns.length 0 (by omega) (by simp [val_ints])
    · refine ints_s_0 ns ms t u (by simp; omega) ?_
      have : ns ≠ ms := fun h => he (by rw [h])
      simp [val_ints, this]
  · cases hp
def val_copy : List PV → PV
  | [.sl _ _ xs] => .sl 1 false xs
  | _ => .nilp
def pre_copy : List PV → Bool
  | [.sl 1 _ xs] => xs.all PV.isNum && decide (xs.length ≤ 1000000)
  | _ => false
theorem copy_run : ∀ ps, pre_copy ps = true → Gets T_copy 0 (fun st => fin st rs_copy = some (val_copy ps)) ic_copy [] (st0 6 ps) := by
  intro ps hp
  unfold pre_copy at hp
  split at hp
  · rename_i t xs
    simp only [Bool.and_eq_true, decide_eq_true_eq] at hp
    obtain ⟨ns, rfl⟩ := nums_of hp.1
    have hl := hp.2
    rw [nums_length] at hl
    refine copy_s_0 ns t (by simp) (by simp; omega) (by simp) ?_
    simp [val_copy, List.take_of_length_le]
  · cases hp
def pre_view : PV → Bool
  | .agg [.int .i64 _, .sl 1 _ d, .sl 1 _ s] => d.all PV.isNum && s.all PV.isNum && decide (d.length ≤ 9223372036854775807) && decide (s.length ≤ 9223372036854775807)
  | _ => false
theorem view_of {p : PV} (h : pre_view p = true) : ∃ o d s t u, p = .agg [.int .i64 o, .sl 1 t (nums d), .sl 1 u (nums s)] ∧ d.length ≤ 9223372036854775807 ∧ s.length ≤ 9223372036854775807 := by
  unfold pre_view at h
  split at h
  · rename_i o t d u s
    simp only [Bool.and_eq_true, decide_eq_true_eq] at h
    obtain ⟨⟨⟨h1, h2⟩, h3⟩, h4⟩ := h
    obtain ⟨ns, rfl⟩ := nums_of h1
    obtain ⟨ms, rfl⟩ := nums_of h2
    rw [nums_length] at h3 h4
    exact ⟨o, ns, ms, t, u, rfl, h3, h4⟩
  · cases h
theorem pre_view_of (o : Int) (d s : List Int) (t u : Bool) (h1 : d.length ≤ 9223372036854775807) (h2 : s.length ≤ 9223372036854775807) : pre_view (.agg [.int .i64 o, .sl 1 t (nums d), .sl 1 u (nums s)]) = true := by
  simp [pre_view, h1, h2]
def PV.fld (p : PV) (i : Nat) : PV := match p with | .agg xs => xs.getD i default | _ => default
def PV.ns (p : PV) : List Int := p.asXs.map PV.asInt
def PV.vD (p : PV) : List Int := (p.fld 1).ns
def PV.vS (p : PV) : List Int := (p.fld 2).ns
def PV.vO (p : PV) : Int := (p.fld 0).asInt
def formB (d s : List Int) : Bool := (sizeB d).2 == 0 && decide (s.length = d.length)
def val_formed : List PV → PV
  | [p] => .bool (formB p.vD p.vS)
  | _ => .nilp
def val_form : List PV → PV
  | [p] => .int .i64 (bif formB p.vD p.vS then 0 else 1)
  | _ => .nilp
def pre_v1 : List PV → Bool
  | [p] => pre_view p
  | _ => false
theorem formed_run : ∀ ps, pre_v1 ps = true → Gets T_formed 0 (fun st => fin st rs_formed = some (val_formed ps)) ic_formed [] (st0 22 ps) := by
  intro ps hp
  unfold pre_v1 at hp
  split at hp
  · obtain ⟨o, d, s, t, u, rfl, h1, h2⟩ := view_of hp
    cases hb : (sizeB d).2 == 0 with
    | true =>
      refine formed_s_0 o d s t u (by simp [pre_size]) (by simpa using hb) ?_
      simp only [val_formed, PV.vD, PV.vS, PV.fld, PV.ns, PV.asXs, List.getD_cons_succ, List.getD_cons_zero, asInt_nums, formB, hb, Bool.true_and, nums_length]
      congr 1
      rw [Bool.eq_iff_iff]
      simp
      omega
    | false =>
      refine formed_s_1 o d s t u (by simp [pre_size]) (by simpa using hb) ?_
      simp only [val_formed, PV.vD, PV.vS, PV.fld, PV.ns, PV.asXs, List.getD_cons_succ, List.getD_cons_zero, asInt_nums, formB, hb, Bool.false_and]
  · cases hp
theorem form_run : ∀ ps, pre_v1 ps = true → Gets T_form 0 (fun st => fin st rs_form = some (val_form ps)) ic_form [] (st0 22 ps) := by
  intro ps hp
  unfold pre_v1 at hp
  split at hp
  · obtain ⟨o, d, s, t, u, rfl, h1, h2⟩ := view_of hp
    cases hb : (sizeB d).2 == 0 with
    | true =>
      have hb' : ((sizeB d).2 != 0) = false := by simp [bne, hb]
      by_cases hl : s.length = d.length
      · refine form_s_2 o d s t u (by simp [pre_size]) (by simpa using hb') (by simp [hl]) ?_
        simp [val_form, PV.vD, PV.vS, PV.fld, PV.ns, PV.asXs, formB, hb, hl]
      · refine form_s_1 o d s t u (by simp [pre_size]) (by simpa using hb') (by simp; omega) ?_
        simp [val_form, PV.vD, PV.vS, PV.fld, PV.ns, PV.asXs, formB, hb, hl]
    | false =>
      have hb' : ((sizeB d).2 != 0) = true := by simp [bne, hb]
      refine form_s_0 o d s t u (by simp [pre_size]) (by simpa using hb') ?_
      simp [val_form, PV.vD, PV.vS, PV.fld, PV.ns, PV.asXs, formB, hb]
  · cases hp
end Go.Pl

namespace Go.Pl
open Go.RowKit
set_option maxRecDepth 100000
def w64 (n : Int) : Int := IntKind.i64.wrap n
def offL : List Int → List Int → Int → Int × Int
  | d :: ds, i :: is, n => bif decide (i < 0) || decide (i ≥ d) then (0, 2) else offL ds is (w64 (w64 (n * d) + i))
  | _, _, n => (n, 0)
def offB (d ix : List Int) : Int × Int := bif (sizeB d).2 != 0 then (0, (sizeB d).2) else bif (ix.length : Int) != d.length then (0, 13) else offL d ix 0
def val_off : List PV → PV
  | [p, q] => .tup [.int .i64 (offB p.ns q.ns).1, .int .i64 (offB p.ns q.ns).2]
  | _ => .nilp
def pre_off : List PV → Bool
  | [.sl 1 _ xs, .sl 1 _ ys] => xs.all PV.isNum && ys.all PV.isNum
  | _ => false
def ic_contains : IC := (.seq (.reg [⟨(some 4), (.mv (.c (.bool false))), 0, none⟩] none) (.seq (.reg [⟨(some 5), (.mv (.t 0)), 0, none⟩, ⟨(some 6), (.mv (.t 1)), 0, none⟩, ⟨(some 7), (.call (.c (.fn 108)) [(.t 5), (.t 6)]), 0, none⟩, ⟨(some 8), (.bin .num .geq (.t 7) (.c (.int .i64 0))), 2, none⟩, ⟨(some 4), (.mv (.t 8)), 2, none⟩] none) .ret))
def rs_contains : List IRes := [(.tmp 4)]
abbrev nt_contains : Nat := 9
def T_contains : Tab := tab [(108, .pure pre_contains val_index)]
theorem contains_s_0 {r : PV} (ns : List Int) (t : Bool) (v : Int) (h0 : (pre_contains [(.sl 1 t (nums ns)), (.int .i64 v)]) = true) (hr : (.bool (decide (idxB v (List.map PV.asInt (nums ns)) 0 ≥ 0))) = r) : Gets T_contains 0 (fun st => fin st rs_contains = some r) ic_contains [] (st0 9 [.sl 1 t (nums ns), .int .i64 v]) := Gets.w (.req (.lit (.nil))) (And.intro h0 hr) (by kernel_rfl)
def ic_off : IC := (.seq (.reg [⟨(some 4), (.mv (.c (.int .i64 0))), 0, none⟩, ⟨(some 5), (.mv (.c (.int .i64 0))), 0, none⟩] none) (.seq (.seq (.reg [⟨(some 12), (.mv (.t 0)), 0, none⟩, ⟨(some 13), (.call (.c (.fn 73)) [(.t 12)]), 0, none⟩, ⟨(some 11), (.mv (.t 13)), 2, none⟩, ⟨(some 14), (.extract (.t 11) 0), 2, none⟩, ⟨(some 15), (.extract (.t 11) 1), 2, none⟩, ⟨(some 6), (.mv (.t 14)), 2, none⟩, ⟨(some 7), (.mv (.t 15)), 2, none⟩] none) (.seq (.reg [⟨(some 16), (.mv (.t 7)), 0, none⟩, ⟨(some 17), (.bin .num .neq (.t 16) (.c (.int .i64 0))), 0, none⟩] none) (.cond (.t 17) (.seq (.reg [⟨(some 18), (.mv (.t 7)), 0, none⟩, ⟨(some 4), (.mv (.c (.int .i64 0))), 0, none⟩, ⟨(some 5), (.mv (.t 18)), 0, none⟩] none) .ret) .skip))) (.seq (.seq (.reg [⟨(some 19), (.mv (.t 1)), 0, none⟩, ⟨(some 20), (.len 1 (.t 19)), 0, none⟩, ⟨(some 21), (.mv (.t 0)), 0, none⟩, ⟨(some 22), (.len 1 (.t 21)), 0, none⟩, ⟨(some 23), (.bin .num .neq (.t 20) (.t 22)), 0, none⟩] none) (.cond (.t 23) (.seq (.reg [⟨(some 4), (.mv (.c (.int .i64 0))), 0, none⟩, ⟨(some 5), (.mv (.c (.int .i64 13))), 0, none⟩] none) .ret) .skip)) (.seq (.reg [⟨(some 8), (.mv (.c (.int .i64 0))), 0, none⟩] none) (.seq (.seq (.reg [⟨(some 24), (.mv (.t 0)), 0, none⟩, ⟨(some 25), (.len 1 (.t 24)), 0, none⟩, ⟨(some 26), (.mv (.c (.int .i64 0))), 0, none⟩] none) (.block 0 (.loop [26, 25, 24, 1, 8] (.seq (.reg [⟨(some 27), (.bin .num .lss (.t 26) (.t 25)), 0, none⟩] none) (.seq (.cond (.t 27) .skip (.exit 0)) (.seq (.block 1 (.seq (.reg [⟨(some 28), (.mv (.t 26)), 0, none⟩, ⟨(some 29), (.iaddr 1 (.t 24) (.t 26)), 0, none⟩, ⟨(some 30), (.load false [(.int .i64)] (.t 29)), 0, none⟩, ⟨(some 9), (.mv (.t 28)), 0, none⟩, ⟨(some 10), (.mv (.t 30)), 0, none⟩] none) (.seq (.seq (.reg [⟨(some 31), (.mv (.t 1)), 0, none⟩, ⟨(some 32), (.mv (.t 9)), 0, none⟩, ⟨(some 33), (.iaddr 1 (.t 31) (.t 32)), 0, none⟩, ⟨(some 34), (.load false [(.int .i64)] (.t 33)), 0, none⟩, ⟨(some 35), (.bin .num .lss (.t 34) (.c (.int .i64 0))), 0, none⟩, ⟨(some 36), (.mv (.t 35)), 0, none⟩, ⟨(some 37), (.mv (.t 1)), 0, (some (36, false))⟩, ⟨(some 38), (.mv (.t 9)), 0, (some (36, false))⟩, ⟨(some 39), (.iaddr 1 (.t 37) (.t 38)), 0, (some (36, false))⟩, ⟨(some 40), (.load false [(.int .i64)] (.t 39)), 0, (some (36, false))⟩, ⟨(some 41), (.mv (.t 10)), 0, (some (36, false))⟩, ⟨(some 42), (.bin .num .geq (.t 40) (.t 41)), 0, (some (36, false))⟩, ⟨(some 43), (.pick (.t 36) (.c (.bool true)) (.t 42)), 0, none⟩] none) (.cond (.t 43) (.seq (.reg [⟨(some 4), (.mv (.c (.int .i64 0))), 0, none⟩, ⟨(some 5), (.mv (.c (.int .i64 2))), 0, none⟩] none) .ret) .skip)) (.reg [⟨(some 44), (.mv (.t 8)), 0, none⟩, ⟨(some 45), (.mv (.t 10)), 0, none⟩, ⟨(some 46), (.bin .num .mul (.t 44) (.t 45)), 0, none⟩, ⟨(some 47), (.mv (.t 1)), 0, none⟩, ⟨(some 48), (.mv (.t 9)), 0, none⟩, ⟨(some 49), (.iaddr 1 (.t 47) (.t 48)), 0, none⟩, ⟨(some 50), (.load false [(.int .i64)] (.t 49)), 0, none⟩, ⟨(some 51), (.bin .num .add (.t 46) (.t 50)), 0, none⟩, ⟨(some 8), (.mv (.t 51)), 0, none⟩] none)))) (.reg [⟨(some 52), (.bin .num .add (.t 26) (.c (.int .i64 1))), 0, none⟩, ⟨(some 26), (.mv (.t 52)), 0, none⟩] none))))))) (.seq (.reg [⟨(some 53), (.mv (.t 8)), 0, none⟩, ⟨(some 4), (.mv (.t 53)), 0, none⟩, ⟨(some 5), (.mv (.c (.int .i64 0))), 0, none⟩] none) .ret))))))
def rs_off : List IRes := [(.tmp 4), (.tmp 5)]
abbrev nt_off : Nat := 54
def T_off : Tab := tab [(73, .pure pre_size val_size)]
theorem off_s_0 {r : PV} (ns ms : List Int) (t u : Bool) (h0 : (pre_size [(.sl 1 t (nums ns))]) = true) (h1 : ((sizeB (List.map PV.asInt (nums ns))).snd != 0) = true) (hr : (.tup [(.int .i64 0), (.int .i64 ((sizeB (List.map PV.asInt (nums ns))).snd))]) = r) : Gets T_off 0 (fun st => fin st rs_off = some r) ic_off [] (st0 54 [.sl 1 t (nums ns), .sl 1 u (nums ms)]) := Gets.w (.req (.lit (.ans true (.nil)))) (And.intro h0 (And.intro h1 hr)) (by kernel_rfl)
theorem off_s_1 {r : PV} (ns ms : List Int) (t u : Bool) (h0 : (pre_size [(.sl 1 t (nums ns))]) = true) (h1 : ((sizeB (List.map PV.asInt (nums ns))).snd != 0) = false) (h2 : ((↑(nums ms).length : Int) != (↑(nums ns).length : Int)) = true) (hr : (.tup [(.int .i64 0), (.int .i64 13)]) = r) : Gets T_off 0 (fun st => fin st rs_off = some r) ic_off [] (st0 54 [.sl 1 t (nums ns), .sl 1 u (nums ms)]) := Gets.w (.req (.lit (.ans false (.lit (.ans true (.nil)))))) (And.intro h0 (And.intro h1 (And.intro h2 hr))) (by kernel_rfl)
theorem off_s_2 {r : PV} (ns ms : List Int) (t u : Bool) (h0 : (pre_size [(.sl 1 t (nums ns))]) = true) (h1 : ((sizeB (List.map PV.asInt (nums ns))).snd != 0) = false) (h2 : ((↑(nums ms).length : Int) != (↑(nums ns).length : Int)) = false) (hn : At T_off 0 (fun st => fin st rs_off = some r) ic_off 0 54 [(1, (.pv (.sl 1 u (nums ms)))), (8, (.pv (.int .i64 0))), (24, (.pv (.sl 1 t (nums ns)))), (25, (.pv (.int .i64 (↑(nums ns).length : Int)))), (26, (.pv (.int .i64 0)))] []) : Gets T_off 0 (fun st => fin st rs_off = some r) ic_off [] (st0 54 [.sl 1 t (nums ns), .sl 1 u (nums ms)]) := Gets.w (.req (.lit (.ans false (.lit (.ans false (.nil)))))) (And.intro h0 (And.intro h1 (And.intro h2 hn))) (by kernel_rfl)
theorem off_h0_0 {r : PV} (ns ms : List Int) (t u : Bool) (i n : Int) (h0 : (decide (i < (↑(nums ns).length : Int))) = true) (h1 : (decide (0 ≤ i) && decide (i.toNat < (nums ns).length) && 1 == 1) = true) (h2 : (decide (0 + [Sh.int .i64].length ≤ ((nums ns).getD i.toNat default).cells.length) && shFit ((nums ns).getD i.toNat default).cells 0 [Sh.int .i64]) = true) (h3 : (decide (0 ≤ i) && decide (i.toNat < (nums ms).length) && 1 == 1) = true) (h4 : (decide (0 + [Sh.int .i64].length ≤ ((nums ms).getD i.toNat default).cells.length) && shFit ((nums ms).getD i.toNat default).cells 0 [Sh.int .i64]) = true) (h5 : (decide ((((nums ms).getD i.toNat default).cells.getD 0 default).asInt < 0)) = true) (hr : (.tup [(.int .i64 0), (.int .i64 2)]) = r) : At T_off 0 (fun st => fin st rs_off = some r) ic_off 0 54 [(1, .pv (.sl 1 u (nums ms))), (8, .pv (.int .i64 n)), (24, .pv (.sl 1 t (nums ns))), (25, .pv (.int .i64 (nums ns).length)), (26, .pv (.int .i64 i))] [] := At.w (.lit (.ans true (.req (.req (.req (.req (.lit (.ans true (.lit (.lit (.lit (.lit (.lit (.lit (.lit (.nil)))))))))))))))) (And.intro h0 (And.intro h1 (And.intro h2 (And.intro h3 (And.intro h4 (And.intro h5 hr)))))) (by kernel_rfl)
theorem off_h0_1 {r : PV} (ns ms : List Int) (t u : Bool) (i n : Int) (h0 : (decide (i < (↑(nums ns).length : Int))) = true) (h1 : (decide (0 ≤ i) && decide (i.toNat < (nums ns).length) && 1 == 1) = true) (h2 : (decide (0 + [Sh.int .i64].length ≤ ((nums ns).getD i.toNat default).cells.length) && shFit ((nums ns).getD i.toNat default).cells 0 [Sh.int .i64]) = true) (h3 : (decide (0 ≤ i) && decide (i.toNat < (nums ms).length) && 1 == 1) = true) (h4 : (decide (0 + [Sh.int .i64].length ≤ ((nums ms).getD i.toNat default).cells.length) && shFit ((nums ms).getD i.toNat default).cells 0 [Sh.int .i64]) = true) (h5 : (decide ((((nums ms).getD i.toNat default).cells.getD 0 default).asInt < 0)) = false) (h6 : (decide ((((nums ms).getD i.toNat default).cells.getD 0 default).asInt ≥ (((nums ns).getD i.toNat default).cells.getD 0 default).asInt)) = true) (hr : (.tup [(.int .i64 0), (.int .i64 2)]) = r) : At T_off 0 (fun st => fin st rs_off = some r) ic_off 0 54 [(1, .pv (.sl 1 u (nums ms))), (8, .pv (.int .i64 n)), (24, .pv (.sl 1 t (nums ns))), (25, .pv (.int .i64 (nums ns).length)), (26, .pv (.int .i64 i))] [] := At.w (.lit (.ans true (.req (.req (.req (.req (.lit (.ans false (.lit (.lit (.req (.lit (.req (.lit (.lit (.lit (.lit (.ans true (.nil))))))))))))))))))) (And.intro h0 (And.intro h1 (And.intro h2 (And.intro h3 (And.intro h4 (And.intro h5 (And.intro h3 (And.intro h4 (And.intro h6 hr))))))))) (by kernel_rfl)
theorem off_h0_2 {r : PV} (ns ms : List Int) (t u : Bool) (i n : Int) (h0 : (decide (i < (↑(nums ns).length : Int))) = true) (h1 : (decide (0 ≤ i) && decide (i.toNat < (nums ns).length) && 1 == 1) = true) (h2 : (decide (0 + [Sh.int .i64].length ≤ ((nums ns).getD i.toNat default).cells.length) && shFit ((nums ns).getD i.toNat default).cells 0 [Sh.int .i64]) = true) (h3 : (decide (0 ≤ i) && decide (i.toNat < (nums ms).length) && 1 == 1) = true) (h4 : (decide (0 + [Sh.int .i64].length ≤ ((nums ms).getD i.toNat default).cells.length) && shFit ((nums ms).getD i.toNat default).cells 0 [Sh.int .i64]) = true) (h5 : (decide ((((nums ms).getD i.toNat default).cells.getD 0 default).asInt < 0)) = false) (h6 : (decide ((((nums ms).getD i.toNat default).cells.getD 0 default).asInt ≥ (((nums ns).getD i.toNat default).cells.getD 0 default).asInt)) = false) (hn : At T_off 0 (fun st => fin st rs_off = some r) ic_off 0 54 [(1, (.pv (.sl 1 u (nums ms)))), (8, (.pv (.int .i64 (IntKind.i64.wrap (IntKind.i64.wrap (n * (((nums ns).getD i.toNat default).cells.getD 0 default).asInt) + (((nums ms).getD i.toNat default).cells.getD 0 default).asInt))))), (24, (.pv (.sl 1 t (nums ns)))), (25, (.pv (.int .i64 (↑(nums ns).length : Int)))), (26, (.pv (.int .i64 (IntKind.i64.wrap (i + 1)))))] []) : At T_off 0 (fun st => fin st rs_off = some r) ic_off 0 54 [(1, .pv (.sl 1 u (nums ms))), (8, .pv (.int .i64 n)), (24, .pv (.sl 1 t (nums ns))), (25, .pv (.int .i64 (nums ns).length)), (26, .pv (.int .i64 i))] [] := At.w (.lit (.ans true (.req (.req (.req (.req (.lit (.ans false (.lit (.lit (.req (.lit (.req (.lit (.lit (.lit (.lit (.ans false (.lit (.req (.req (.lit (.lit (.nil)))))))))))))))))))))))) (And.intro h0 (And.intro h1 (And.intro h2 (And.intro h3 (And.intro h4 (And.intro h5 (And.intro h3 (And.intro h4 (And.intro h6 (And.intro h3 (And.intro h4 hn))))))))))) (by kernel_rfl)
theorem off_h0_3 {r : PV} (ns ms : List Int) (t u : Bool) (i n : Int) (h0 : (decide (i < (↑(nums ns).length : Int))) = false) (hr : (.tup [(.int .i64 n), (.int .i64 0)]) = r) : At T_off 0 (fun st => fin st rs_off = some r) ic_off 0 54 [(1, .pv (.sl 1 u (nums ms))), (8, .pv (.int .i64 n)), (24, .pv (.sl 1 t (nums ns))), (25, .pv (.int .i64 (nums ns).length)), (26, .pv (.int .i64 i))] [] := At.w (.lit (.ans false (.nil))) (And.intro h0 hr) (by kernel_rfl)
def ic_roff : IC := (.seq (.reg [⟨(some 4), (.mv (.c (.int .i64 0))), 0, none⟩, ⟨(some 5), (.mv (.c (.int .i64 0))), 0, none⟩] none) (.seq (.seq (.reg [⟨(some 11), (.mv (.t 0)), 0, none⟩, ⟨(some 12), (.call (.c (.fn 35)) [(.t 11)]), 0, none⟩, ⟨(some 10), (.mv (.t 12)), 2, none⟩, ⟨(some 13), (.extract (.t 10) 0), 2, none⟩, ⟨(some 14), (.extract (.t 10) 1), 2, none⟩, ⟨(some 6), (.mv (.t 13)), 2, none⟩, ⟨(some 7), (.mv (.t 14)), 2, none⟩] none) (.seq (.reg [⟨(some 15), (.mv (.t 7)), 0, none⟩, ⟨(some 16), (.bin .num .neq (.t 15) (.c (.int .i64 0))), 0, none⟩] none) (.cond (.t 16) (.seq (.reg [⟨(some 17), (.mv (.t 7)), 0, none⟩, ⟨(some 4), (.mv (.c (.int .i64 0))), 0, none⟩, ⟨(some 5), (.mv (.t 17)), 0, none⟩] none) .ret) .skip))) (.seq (.seq (.reg [⟨(some 18), (.mv (.t 1)), 0, none⟩, ⟨(some 19), (.len 1 (.t 18)), 0, none⟩, ⟨(some 20), (.mv (.t 0)), 0, none⟩, ⟨(some 21), (.len 1 (.t 20)), 0, none⟩, ⟨(some 22), (.bin .num .neq (.t 19) (.t 21)), 0, none⟩] none) (.cond (.t 22) (.seq (.reg [⟨(some 4), (.mv (.c (.int .i64 0))), 0, none⟩, ⟨(some 5), (.mv (.c (.int .i64 13))), 0, none⟩] none) .ret) .skip)) (.seq (.reg [⟨(some 8), (.mv (.c (.int .i64 0))), 0, none⟩] none) (.seq (.seq (.reg [⟨(some 9), (.mv (.c (.int .i64 0))), 0, none⟩] none) (.block 0 (.loop [9, 0, 1, 8] (.seq (.seq (.reg [⟨(some 23), (.mv (.t 9)), 0, none⟩, ⟨(some 24), (.mv (.t 0)), 0, none⟩, ⟨(some 25), (.len 1 (.t 24)), 0, none⟩, ⟨(some 26), (.bin .num .lss (.t 23) (.t 25)), 0, none⟩] none) (.cond (.t 26) .skip (.exit 0))) (.seq (.block 1 (.seq (.seq (.reg [⟨(some 29), (.mv (.t 1)), 0, none⟩, ⟨(some 30), (.mv (.t 9)), 0, none⟩, ⟨(some 31), (.iaddr 1 (.t 29) (.t 30)), 0, none⟩, ⟨(some 32), (.load false [(.int .i64)] (.t 31)), 0, none⟩, ⟨(some 33), (.bin .num .lss (.t 32) (.c (.int .i64 0))), 0, none⟩, ⟨(some 34), (.mv (.t 33)), 0, none⟩, ⟨(some 35), (.mv (.t 1)), 0, (some (34, false))⟩, ⟨(some 36), (.mv (.t 9)), 0, (some (34, false))⟩, ⟨(some 37), (.iaddr 1 (.t 35) (.t 36)), 0, (some (34, false))⟩, ⟨(some 38), (.load false [(.int .i64)] (.t 37)), 0, (some (34, false))⟩, ⟨(some 39), (.mv (.t 0)), 0, (some (34, false))⟩, ⟨(some 40), (.mv (.t 9)), 0, (some (34, false))⟩, ⟨(some 41), (.iaddr 1 (.t 39) (.t 40)), 0, (some (34, false))⟩, ⟨(some 42), (.load false [(.int .i64)] (.t 41)), 0, (some (34, false))⟩, ⟨(some 43), (.bin .num .geq (.t 38) (.t 42)), 0, (some (34, false))⟩, ⟨(some 44), (.pick (.t 34) (.c (.bool true)) (.t 43)), 0, none⟩] (some [[], [], [0, 1], [2, 0, 1], [3, 2, 0, 1], [4, 3, 2, 0, 1], [5, 4, 3, 2, 0, 1], [5, 4, 3, 2, 0, 1], [6, 7, 5, 4, 3, 2, 0, 1], [8, 5, 6, 7, 4, 3, 2, 0, 1], [5, 4, 3, 2, 0, 1], [5, 4, 3, 2, 0, 1], [10, 11, 5, 4, 3, 2, 0, 1], [12, 5, 10, 11, 4, 3, 2, 0, 1], [9, 13, 5, 8, 6, 7, 4, 3, 2, 0, 1, 12, 10, 11], [5, 14, 4, 3, 2, 0, 1, 9, 13, 8, 6, 7, 12, 10, 11]])) (.cond (.t 44) (.seq (.reg [⟨(some 4), (.mv (.c (.int .i64 0))), 0, none⟩, ⟨(some 5), (.mv (.c (.int .i64 2))), 0, none⟩] none) .ret) .skip)) (.reg [⟨(some 45), (.mv (.t 8)), 0, none⟩, ⟨(some 46), (.mv (.t 0)), 0, none⟩, ⟨(some 47), (.mv (.t 9)), 0, none⟩, ⟨(some 48), (.iaddr 1 (.t 46) (.t 47)), 0, none⟩, ⟨(some 49), (.load false [(.int .i64)] (.t 48)), 0, none⟩, ⟨(some 50), (.bin .num .mul (.t 45) (.t 49)), 0, none⟩, ⟨(some 51), (.mv (.t 1)), 0, none⟩, ⟨(some 52), (.mv (.t 9)), 0, none⟩, ⟨(some 53), (.iaddr 1 (.t 51) (.t 52)), 0, none⟩, ⟨(some 54), (.load false [(.int .i64)] (.t 53)), 0, none⟩, ⟨(some 55), (.bin .num .add (.t 50) (.t 54)), 0, none⟩, ⟨(some 8), (.mv (.t 55)), 0, none⟩] (some [[], [], [], [1, 2], [3, 1, 2], [0, 4, 3, 1, 2], [], [], [6, 7], [8, 6, 7], [5, 9, 0, 4, 3, 1, 2, 8, 6, 7], [10, 0, 1, 2, 3, 4, 5, 6, 7, 8, 9]])))) (.reg [⟨(some 27), (.mv (.t 9)), 0, none⟩, ⟨(some 28), (.bin .num .add (.t 27) (.c (.int .i64 1))), 0, none⟩, ⟨(some 9), (.mv (.t 28)), 0, none⟩] none)))))) (.seq (.reg [⟨(some 56), (.mv (.t 8)), 0, none⟩, ⟨(some 4), (.mv (.t 56)), 0, none⟩, ⟨(some 5), (.mv (.c (.int .i64 0))), 0, none⟩] none) .ret))))))
def rs_roff : List IRes := [(.tmp 4), (.tmp 5)]
abbrev nt_roff : Nat := 57
def T_roff : Tab := tab [(35, .pure pre_size val_size)]
theorem roff_s_0 {r : PV} (ns ms : List Int) (t u : Bool) (h0 : (pre_size [(.sl 1 t (nums ns))]) = true) (h1 : ((sizeB (List.map PV.asInt (nums ns))).snd != 0) = true) (hr : (.tup [(.int .i64 0), (.int .i64 ((sizeB (List.map PV.asInt (nums ns))).snd))]) = r) : Gets T_roff 0 (fun st => fin st rs_roff = some r) ic_roff [] (st0 57 [.sl 1 t (nums ns), .sl 1 u (nums ms)]) := Gets.w (.req (.lit (.ans true (.nil)))) (And.intro h0 (And.intro h1 hr)) (by kernel_rfl)
theorem roff_s_1 {r : PV} (ns ms : List Int) (t u : Bool) (h0 : (pre_size [(.sl 1 t (nums ns))]) = true) (h1 : ((sizeB (List.map PV.asInt (nums ns))).snd != 0) = false) (h2 : ((↑(nums ms).length : Int) != (↑(nums ns).length : Int)) = true) (hr : (.tup [(.int .i64 0), (.int .i64 13)]) = r) : Gets T_roff 0 (fun st => fin st rs_roff = some r) ic_roff [] (st0 57 [.sl 1 t (nums ns), .sl 1 u (nums ms)]) := Gets.w (.req (.lit (.ans false (.lit (.ans true (.nil)))))) (And.intro h0 (And.intro h1 (And.intro h2 hr))) (by kernel_rfl)
theorem roff_s_2 {r : PV} (ns ms : List Int) (t u : Bool) (h0 : (pre_size [(.sl 1 t (nums ns))]) = true) (h1 : ((sizeB (List.map PV.asInt (nums ns))).snd != 0) = false) (h2 : ((↑(nums ms).length : Int) != (↑(nums ns).length : Int)) = false) (hn : At T_roff 0 (fun st => fin st rs_roff = some r) ic_roff 0 57 [(0, (.pv (.sl 1 t (nums ns)))), (1, (.pv (.sl 1 u (nums ms)))), (8, (.pv (.int .i64 0))), (9, (.pv (.int .i64 0)))] []) : Gets T_roff 0 (fun st => fin st rs_roff = some r) ic_roff [] (st0 57 [.sl 1 t (nums ns), .sl 1 u (nums ms)]) := Gets.w (.req (.lit (.ans false (.lit (.ans false (.nil)))))) (And.intro h0 (And.intro h1 (And.intro h2 hn))) (by kernel_rfl)
theorem roff_h0_0 {r : PV} (ns ms : List Int) (t u : Bool) (i n : Int) (h0 : (decide (i < (↑(nums ns).length : Int))) = true) (h1 : (decide (0 ≤ i) && decide (i.toNat < (nums ms).length) && 1 == 1) = true) (h2 : (decide (0 + [Sh.int .i64].length ≤ ((nums ms).getD i.toNat default).cells.length) && shFit ((nums ms).getD i.toNat default).cells 0 [Sh.int .i64]) = true) (h3 : (decide ((((nums ms).getD i.toNat default).cells.getD 0 default).asInt < 0)) = true) (hr : (.tup [(.int .i64 0), (.int .i64 2)]) = r) : At T_roff 0 (fun st => fin st rs_roff = some r) ic_roff 0 57 [(0, .pv (.sl 1 t (nums ns))), (1, .pv (.sl 1 u (nums ms))), (8, .pv (.int .i64 n)), (9, .pv (.int .i64 i))] [] := At.w (.lit (.ans true (.req (.req (.lit (.ans true (.lit (.lit (.lit (.lit (.lit (.lit (.lit (.lit (.lit (.lit (.nil))))))))))))))))) (And.intro h0 (And.intro h1 (And.intro h2 (And.intro h3 hr)))) (by kernel_rfl)
theorem roff_h0_1 {r : PV} (ns ms : List Int) (t u : Bool) (i n : Int) (h0 : (decide (i < (↑(nums ns).length : Int))) = true) (h1 : (decide (0 ≤ i) && decide (i.toNat < (nums ms).length) && 1 == 1) = true) (h2 : (decide (0 + [Sh.int .i64].length ≤ ((nums ms).getD i.toNat default).cells.length) && shFit ((nums ms).getD i.toNat default).cells 0 [Sh.int .i64]) = true) (h3 : (decide ((((nums ms).getD i.toNat default).cells.getD 0 default).asInt < 0)) = false) (h4 : (decide (0 ≤ i) && decide (i.toNat < (nums ns).length) && 1 == 1) = true) (h5 : (decide (0 + [Sh.int .i64].length ≤ ((nums ns).getD i.toNat default).cells.length) && shFit ((nums ns).getD i.toNat default).cells 0 [Sh.int .i64]) = true) (h6 : (decide ((((nums ms).getD i.toNat default).cells.getD 0 default).asInt ≥ (((nums ns).getD i.toNat default).cells.getD 0 default).asInt)) = true) (hr : (.tup [(.int .i64 0), (.int .i64 2)]) = r) : At T_roff 0 (fun st => fin st rs_roff = some r) ic_roff 0 57 [(0, .pv (.sl 1 t (nums ns))), (1, .pv (.sl 1 u (nums ms))), (8, .pv (.int .i64 n)), (9, .pv (.int .i64 i))] [] := At.w (.lit (.ans true (.req (.req (.lit (.ans false (.lit (.lit (.req (.lit (.req (.lit (.lit (.lit (.req (.lit (.req (.lit (.lit (.lit (.ans true (.nil)))))))))))))))))))))) (And.intro h0 (And.intro h1 (And.intro h2 (And.intro h3 (And.intro h1 (And.intro h2 (And.intro h4 (And.intro h5 (And.intro h6 hr))))))))) (by kernel_rfl)
theorem roff_h0_2 {r : PV} (ns ms : List Int) (t u : Bool) (i n : Int) (h0 : (decide (i < (↑(nums ns).length : Int))) = true) (h1 : (decide (0 ≤ i) && decide (i.toNat < (nums ms).length) && 1 == 1) = true) (h2 : (decide (0 + [Sh.int .i64].length ≤ ((nums ms).getD i.toNat default).cells.length) && shFit ((nums ms).getD i.toNat default).cells 0 [Sh.int .i64]) = true) (h3 : (decide ((((nums ms).getD i.toNat default).cells.getD 0 default).asInt < 0)) = false) (h4 : (decide (0 ≤ i) && decide (i.toNat < (nums ns).length) && 1 == 1) = true) (h5 : (decide (0 + [Sh.int .i64].length ≤ ((nums ns).getD i.toNat default).cells.length) && shFit ((nums ns).getD i.toNat default).cells 0 [Sh.int .i64]) = true) (h6 : (decide ((((nums ms).getD i.toNat default).cells.getD 0 default).asInt ≥ (((nums ns).getD i.toNat default).cells.getD 0 default).asInt)) = false) (hn : At T_roff 0 (fun st => fin st rs_roff = some r) ic_roff 0 57 [(0, (.pv (.sl 1 t (nums ns)))), (1, (.pv (.sl 1 u (nums ms)))), (8, (.pv (.int .i64 (IntKind.i64.wrap (IntKind.i64.wrap (n * (((nums ns).getD i.toNat default).cells.getD 0 default).asInt) + (((nums ms).getD i.toNat default).cells.getD 0 default).asInt))))), (9, (.pv (.int .i64 (IntKind.i64.wrap (i + 1)))))] []) : At T_roff 0 (fun st => fin st rs_roff = some r) ic_roff 0 57 [(0, .pv (.sl 1 t (nums ns))), (1, .pv (.sl 1 u (nums ms))), (8, .pv (.int .i64 n)), (9, .pv (.int .i64 i))] [] := At.w (.lit (.ans true (.req (.req (.lit (.ans false (.lit (.lit (.req (.lit (.req (.lit (.lit (.lit (.req (.lit (.req (.lit (.lit (.lit (.ans false (.req (.req (.lit (.req (.req (.lit (.lit (.nil))))))))))))))))))))))))))))) (And.intro h0 (And.intro h1 (And.intro h2 (And.intro h3 (And.intro h1 (And.intro h2 (And.intro h4 (And.intro h5 (And.intro h6 (And.intro h4 (And.intro h5 (And.intro h1 (And.intro h2 hn))))))))))))) (by kernel_rfl)
theorem roff_h0_3 {r : PV} (ns ms : List Int) (t u : Bool) (i n : Int) (h0 : (decide (i < (↑(nums ns).length : Int))) = false) (hr : (.tup [(.int .i64 n), (.int .i64 0)]) = r) : At T_roff 0 (fun st => fin st rs_roff = some r) ic_roff 0 57 [(0, .pv (.sl 1 t (nums ns))), (1, .pv (.sl 1 u (nums ms))), (8, .pv (.int .i64 n)), (9, .pv (.int .i64 i))] [] := At.w (.lit (.ans false (.nil))) (And.intro h0 hr) (by kernel_rfl)
def ic_at : IC := (.seq (.reg [⟨(some 2), (.box 3 (.t 0)), 0, none⟩, ⟨(some 4), (.mv (.c (.int .i64 0))), 1, none⟩, ⟨(some 5), (.mv (.c (.int .i64 0))), 1, none⟩] none) (.seq (.seq (.reg [⟨(some 11), (.load true [(.int .i64), (.sl 1), (.sl 1)] (.t 2)), 0, none⟩, ⟨(some 12), (.call (.c (.fn 76)) [(.t 11)]), 0, none⟩, ⟨(some 13), (.un .not (.t 12)), 2, none⟩] none) (.cond (.t 13) (.seq (.reg [⟨(some 4), (.mv (.c (.int .i64 0))), 0, none⟩, ⟨(some 5), (.mv (.c (.int .i64 1))), 0, none⟩] none) .ret) .skip)) (.seq (.seq (.reg [⟨(some 15), (.faddr 1 (.t 2)), 0, none⟩, ⟨(some 16), (.load false [(.sl 1)] (.t 15)), 0, none⟩, ⟨(some 17), (.mv (.t 1)), 0, none⟩, ⟨(some 18), (.call (.c (.fn 77)) [(.t 16), (.t 17)]), 0, none⟩, ⟨(some 14), (.mv (.t 18)), 2, none⟩, ⟨(some 19), (.extract (.t 14) 0), 2, none⟩, ⟨(some 20), (.extract (.t 14) 1), 2, none⟩, ⟨(some 6), (.mv (.t 19)), 2, none⟩, ⟨(some 7), (.mv (.t 20)), 2, none⟩] none) (.seq (.reg [⟨(some 21), (.mv (.t 7)), 0, none⟩, ⟨(some 22), (.bin .num .neq (.t 21) (.c (.int .i64 0))), 0, none⟩] none) (.cond (.t 22) (.seq (.reg [⟨(some 23), (.mv (.t 7)), 0, none⟩, ⟨(some 4), (.mv (.c (.int .i64 0))), 0, none⟩, ⟨(some 5), (.mv (.t 23)), 0, none⟩] none) .ret) .skip))) (.seq (.reg [⟨(some 24), (.faddr 0 (.t 2)), 0, none⟩, ⟨(some 25), (.load false [(.int .i64)] (.t 24)), 0, none⟩, ⟨(some 8), (.mv (.t 25)), 0, none⟩] none) (.seq (.seq (.reg [⟨(some 26), (.mv (.t 1)), 0, none⟩, ⟨(some 27), (.len 1 (.t 26)), 0, none⟩, ⟨(some 28), (.mv (.c (.int .i64 0))), 0, none⟩] none) (.block 0 (.loop [28, 27, 26, 8, 2] (.seq (.reg [⟨(some 29), (.bin .num .lss (.t 28) (.t 27)), 0, none⟩] none) (.seq (.cond (.t 29) .skip (.exit 0)) (.seq (.block 1 (.seq (.reg [⟨(some 30), (.mv (.t 28)), 0, none⟩, ⟨(some 31), (.iaddr 1 (.t 26) (.t 28)), 0, none⟩, ⟨(some 32), (.load false [(.int .i64)] (.t 31)), 0, none⟩, ⟨(some 9), (.mv (.t 30)), 0, none⟩, ⟨(some 10), (.mv (.t 32)), 0, none⟩] none) (.reg [⟨(some 33), (.mv (.t 8)), 0, none⟩, ⟨(some 34), (.mv (.t 10)), 0, none⟩, ⟨(some 35), (.faddr 2 (.t 2)), 0, none⟩, ⟨(some 36), (.load false [(.sl 1)] (.t 35)), 0, none⟩, ⟨(some 37), (.mv (.t 9)), 0, none⟩, ⟨(some 38), (.iaddr 1 (.t 36) (.t 37)), 0, none⟩, ⟨(some 39), (.load false [(.int .i64)] (.t 38)), 0, none⟩, ⟨(some 40), (.bin .num .mul (.t 34) (.t 39)), 0, none⟩, ⟨(some 41), (.bin .num .add (.t 33) (.t 40)), 0, none⟩, ⟨(some 8), (.mv (.t 41)), 0, none⟩] none))) (.reg [⟨(some 42), (.bin .num .add (.t 28) (.c (.int .i64 1))), 0, none⟩, ⟨(some 28), (.mv (.t 42)), 0, none⟩] none))))))) (.seq (.reg [⟨(some 43), (.mv (.t 8)), 0, none⟩, ⟨(some 4), (.mv (.t 43)), 0, none⟩, ⟨(some 5), (.mv (.c (.int .i64 0))), 0, none⟩] none) .ret))))))
def rs_at : List IRes := [(.tmp 4), (.tmp 5)]
abbrev nt_at : Nat := 44
def T_at : Tab := tab [(76, .pure pre_v1 val_formed), (77, .pure pre_off val_off)]
theorem at_s_0 {r : PV} (o : Int) (d s : List Int) (t u : Bool) (ms : List Int) (x : Bool) (h0 : (pre_v1 [(.agg [(.int .i64 o), (.sl 1 t (nums d)), (.sl 1 u (nums s))])]) = true) (h1 : (!formB (PV.agg [PV.int .i64 o, PV.sl 1 t (nums d), PV.sl 1 u (nums s)]).vD (PV.agg [PV.int .i64 o, PV.sl 1 t (nums d), PV.sl 1 u (nums s)]).vS) = true) (hr : (.tup [(.int .i64 0), (.int .i64 1)]) = r) : Gets T_at 0 (fun st => fin st rs_at = some r) ic_at [] (st0 44 [(.agg [.int .i64 o, .sl 1 t (nums d), .sl 1 u (nums s)]), .sl 1 x (nums ms)]) := Gets.w (.req (.ans true (.nil))) (And.intro h0 (And.intro h1 hr)) (by kernel_rfl)
theorem at_s_1 {r : PV} (o : Int) (d s : List Int) (t u : Bool) (ms : List Int) (x : Bool) (h0 : (pre_v1 [(.agg [(.int .i64 o), (.sl 1 t (nums d)), (.sl 1 u (nums s))])]) = true) (h1 : (!formB (PV.agg [PV.int .i64 o, PV.sl 1 t (nums d), PV.sl 1 u (nums s)]).vD (PV.agg [PV.int .i64 o, PV.sl 1 t (nums d), PV.sl 1 u (nums s)]).vS) = false) (h2 : (pre_off [(.sl 1 t (nums d)), (.sl 1 x (nums ms))]) = true) (h3 : ((offB (PV.sl 1 t (nums d)).ns (PV.sl 1 x (nums ms)).ns).snd != 0) = true) (hr : (.tup [(.int .i64 0), (.int .i64 ((offB (PV.sl 1 t (nums d)).ns (PV.sl 1 x (nums ms)).ns).snd))]) = r) : Gets T_at 0 (fun st => fin st rs_at = some r) ic_at [] (st0 44 [(.agg [.int .i64 o, .sl 1 t (nums d), .sl 1 u (nums s)]), .sl 1 x (nums ms)]) := Gets.w (.req (.ans false (.req (.lit (.ans true (.nil)))))) (And.intro h0 (And.intro h1 (And.intro h2 (And.intro h3 hr)))) (by kernel_rfl)
theorem at_s_2 {r : PV} (o : Int) (d s : List Int) (t u : Bool) (ms : List Int) (x : Bool) (h0 : (pre_v1 [(.agg [(.int .i64 o), (.sl 1 t (nums d)), (.sl 1 u (nums s))])]) = true) (h1 : (!formB (PV.agg [PV.int .i64 o, PV.sl 1 t (nums d), PV.sl 1 u (nums s)]).vD (PV.agg [PV.int .i64 o, PV.sl 1 t (nums d), PV.sl 1 u (nums s)]).vS) = false) (h2 : (pre_off [(.sl 1 t (nums d)), (.sl 1 x (nums ms))]) = true) (h3 : ((offB (PV.sl 1 t (nums d)).ns (PV.sl 1 x (nums ms)).ns).snd != 0) = false) (hn : At T_at 0 (fun st => fin st rs_at = some r) ic_at 0 44 [(2, (.ptr 0 0)), (8, (.pv (.int .i64 o))), (26, (.pv (.sl 1 x (nums ms)))), (27, (.pv (.int .i64 (↑(nums ms).length : Int)))), (28, (.pv (.int .i64 0)))] [(.obj (.box [(.pv (.int .i64 o)), (.pv (.sl 1 t (nums d))), (.pv (.sl 1 u (nums s)))]))]) : Gets T_at 0 (fun st => fin st rs_at = some r) ic_at [] (st0 44 [(.agg [.int .i64 o, .sl 1 t (nums d), .sl 1 u (nums s)]), .sl 1 x (nums ms)]) := Gets.w (.req (.ans false (.req (.lit (.ans false (.nil)))))) (And.intro h0 (And.intro h1 (And.intro h2 (And.intro h3 hn)))) (by kernel_rfl)
theorem at_h0_0 {r : PV} (o : Int) (d s : List Int) (t u : Bool) (ms : List Int) (x : Bool) (i n : Int) (h0 : (decide (i < (↑(nums ms).length : Int))) = true) (h1 : (decide (0 ≤ i) && decide (i.toNat < (nums ms).length) && 1 == 1) = true) (h2 : (decide (0 + [Sh.int .i64].length ≤ ((nums ms).getD i.toNat default).cells.length) && shFit ((nums ms).getD i.toNat default).cells 0 [Sh.int .i64]) = true) (h3 : (decide (0 ≤ i) && decide (i.toNat < (nums s).length) && 1 == 1) = true) (h4 : (decide (0 + [Sh.int .i64].length ≤ ((nums s).getD i.toNat default).cells.length) && shFit ((nums s).getD i.toNat default).cells 0 [Sh.int .i64]) = true) (hn : At T_at 0 (fun st => fin st rs_at = some r) ic_at 0 44 [(2, (.ptr 0 0)), (8, (.pv (.int .i64 (IntKind.i64.wrap (n + IntKind.i64.wrap ((((nums ms).getD i.toNat default).cells.getD 0 default).asInt * (((nums s).getD i.toNat default).cells.getD 0 default).asInt)))))), (26, (.pv (.sl 1 x (nums ms)))), (27, (.pv (.int .i64 (↑(nums ms).length : Int)))), (28, (.pv (.int .i64 (IntKind.i64.wrap (i + 1)))))] [(.obj (.box [(.pv (.int .i64 o)), (.pv (.sl 1 t (nums d))), (.pv (.sl 1 u (nums s)))]))]) : At T_at 0 (fun st => fin st rs_at = some r) ic_at 0 44 [(2, .ptr 0 0), (8, .pv (.int .i64 n)), (26, .pv (.sl 1 x (nums ms))), (27, .pv (.int .i64 (nums ms).length)), (28, .pv (.int .i64 i))] [.obj (.box [.pv (.int .i64 o), .pv (.sl 1 t (nums d)), .pv (.sl 1 u (nums s))])] := At.w (.lit (.ans true (.req (.req (.req (.req (.lit (.lit (.lit (.nil)))))))))) (And.intro h0 (And.intro h1 (And.intro h2 (And.intro h3 (And.intro h4 hn))))) (by kernel_rfl)
theorem at_h0_1 {r : PV} (o : Int) (d s : List Int) (t u : Bool) (ms : List Int) (x : Bool) (i n : Int) (h0 : (decide (i < (↑(nums ms).length : Int))) = false) (hr : (.tup [(.int .i64 n), (.int .i64 0)]) = r) : At T_at 0 (fun st => fin st rs_at = some r) ic_at 0 44 [(2, .ptr 0 0), (8, .pv (.int .i64 n)), (26, .pv (.sl 1 x (nums ms))), (27, .pv (.int .i64 (nums ms).length)), (28, .pv (.int .i64 i))] [.obj (.box [.pv (.int .i64 o), .pv (.sl 1 t (nums d)), .pv (.sl 1 u (nums s))])] := At.w (.lit (.ans false (.nil))) (And.intro h0 hr) (by kernel_rfl)
def ic_rat : IC := (.seq (.reg [⟨(some 2), (.box 3 (.t 0)), 0, none⟩, ⟨(some 4), (.mv (.c (.int .i64 0))), 1, none⟩, ⟨(some 5), (.mv (.c (.int .i64 0))), 1, none⟩] none) (.seq (.seq (.reg [⟨(some 11), (.load true [(.int .i64), (.sl 1), (.sl 1)] (.t 2)), 0, none⟩, ⟨(some 12), (.call (.c (.fn 78)) [(.t 11)]), 0, none⟩, ⟨(some 6), (.mv (.t 12)), 2, none⟩] none) (.seq (.reg [⟨(some 13), (.mv (.t 6)), 0, none⟩, ⟨(some 14), (.bin .num .neq (.t 13) (.c (.int .i64 0))), 0, none⟩] none) (.cond (.t 14) (.seq (.reg [⟨(some 15), (.mv (.t 6)), 0, none⟩, ⟨(some 4), (.mv (.c (.int .i64 0))), 0, none⟩, ⟨(some 5), (.mv (.t 15)), 0, none⟩] none) .ret) .skip))) (.seq (.seq (.reg [⟨(some 17), (.faddr 1 (.t 2)), 0, none⟩, ⟨(some 18), (.load false [(.sl 1)] (.t 17)), 0, none⟩, ⟨(some 19), (.mv (.t 1)), 0, none⟩, ⟨(some 20), (.call (.c (.fn 79)) [(.t 18), (.t 19)]), 0, none⟩, ⟨(some 16), (.mv (.t 20)), 2, none⟩, ⟨(some 21), (.extract (.t 16) 0), 2, none⟩, ⟨(some 22), (.extract (.t 16) 1), 2, none⟩, ⟨(some 7), (.mv (.t 21)), 2, none⟩, ⟨(some 8), (.mv (.t 22)), 2, none⟩] none) (.seq (.reg [⟨(some 23), (.mv (.t 8)), 0, none⟩, ⟨(some 24), (.bin .num .neq (.t 23) (.c (.int .i64 0))), 0, none⟩] none) (.cond (.t 24) (.seq (.reg [⟨(some 25), (.mv (.t 8)), 0, none⟩, ⟨(some 4), (.mv (.c (.int .i64 0))), 0, none⟩, ⟨(some 5), (.mv (.t 25)), 0, none⟩] none) .ret) .skip))) (.seq (.reg [⟨(some 26), (.faddr 0 (.t 2)), 0, none⟩, ⟨(some 27), (.load false [(.int .i64)] (.t 26)), 0, none⟩, ⟨(some 9), (.mv (.t 27)), 0, none⟩] none) (.seq (.seq (.reg [⟨(some 10), (.mv (.c (.int .i64 0))), 0, none⟩] none) (.block 0 (.loop [10, 1, 9, 2] (.seq (.seq (.reg [⟨(some 28), (.mv (.t 10)), 0, none⟩, ⟨(some 29), (.mv (.t 1)), 0, none⟩, ⟨(some 30), (.len 1 (.t 29)), 0, none⟩, ⟨(some 31), (.bin .num .lss (.t 28) (.t 30)), 0, none⟩] none) (.cond (.t 31) .skip (.exit 0))) (.seq (.block 1 (.reg [⟨(some 34), (.mv (.t 9)), 0, none⟩, ⟨(some 35), (.mv (.t 1)), 0, none⟩, ⟨(some 36), (.mv (.t 10)), 0, none⟩, ⟨(some 37), (.iaddr 1 (.t 35) (.t 36)), 0, none⟩, ⟨(some 38), (.load false [(.int .i64)] (.t 37)), 0, none⟩, ⟨(some 39), (.faddr 2 (.t 2)), 0, none⟩, ⟨(some 40), (.load false [(.sl 1)] (.t 39)), 0, none⟩, ⟨(some 41), (.mv (.t 10)), 0, none⟩, ⟨(some 42), (.iaddr 1 (.t 40) (.t 41)), 0, none⟩, ⟨(some 43), (.load false [(.int .i64)] (.t 42)), 0, none⟩, ⟨(some 44), (.bin .num .mul (.t 38) (.t 43)), 0, none⟩, ⟨(some 45), (.bin .num .add (.t 34) (.t 44)), 0, none⟩, ⟨(some 9), (.mv (.t 45)), 0, none⟩] (some [[], [], [], [1, 2], [3, 1, 2], [], [5], [], [6, 7, 5], [8, 6, 7, 5], [4, 9, 3, 1, 2, 8, 6, 7, 5], [0, 10, 4, 9, 3, 1, 2, 8, 6, 7, 5], [11, 0, 1, 2, 3, 4, 5, 6, 7, 8, 9, 10]]))) (.reg [⟨(some 32), (.mv (.t 10)), 0, none⟩, ⟨(some 33), (.bin .num .add (.t 32) (.c (.int .i64 1))), 0, none⟩, ⟨(some 10), (.mv (.t 33)), 0, none⟩] none)))))) (.seq (.reg [⟨(some 46), (.mv (.t 9)), 0, none⟩, ⟨(some 4), (.mv (.t 46)), 0, none⟩, ⟨(some 5), (.mv (.c (.int .i64 0))), 0, none⟩] none) .ret))))))
def rs_rat : List IRes := [(.tmp 4), (.tmp 5)]
abbrev nt_rat : Nat := 47
def T_rat : Tab := tab [(78, .pure pre_v1 val_form), (79, .pure pre_off val_off)]
theorem rat_s_0 {r : PV} (o : Int) (d s : List Int) (t u : Bool) (ms : List Int) (x : Bool) (h0 : (pre_v1 [(.agg [(.int .i64 o), (.sl 1 t (nums d)), (.sl 1 u (nums s))])]) = true) (h1 : ((bif formB (PV.agg [PV.int .i64 o, PV.sl 1 t (nums d), PV.sl 1 u (nums s)]).vD (PV.agg [PV.int .i64 o, PV.sl 1 t (nums d), PV.sl 1 u (nums s)]).vS then (0 : Int) else 1) != 0) = true) (hr : (.tup [(.int .i64 0), (.int .i64 (bif formB (PV.agg [PV.int .i64 o, PV.sl 1 t (nums d), PV.sl 1 u (nums s)]).vD (PV.agg [PV.int .i64 o, PV.sl 1 t (nums d), PV.sl 1 u (nums s)]).vS then (0 : Int) else 1))]) = r) : Gets T_rat 0 (fun st => fin st rs_rat = some r) ic_rat [] (st0 47 [(.agg [.int .i64 o, .sl 1 t (nums d), .sl 1 u (nums s)]), .sl 1 x (nums ms)]) := Gets.w (.req (.lit (.ans true (.nil)))) (And.intro h0 (And.intro h1 hr)) (by kernel_rfl)
theorem rat_s_1 {r : PV} (o : Int) (d s : List Int) (t u : Bool) (ms : List Int) (x : Bool) (h0 : (pre_v1 [(.agg [(.int .i64 o), (.sl 1 t (nums d)), (.sl 1 u (nums s))])]) = true) (h1 : ((bif formB (PV.agg [PV.int .i64 o, PV.sl 1 t (nums d), PV.sl 1 u (nums s)]).vD (PV.agg [PV.int .i64 o, PV.sl 1 t (nums d), PV.sl 1 u (nums s)]).vS then (0 : Int) else 1) != 0) = false) (h2 : (pre_off [(.sl 1 t (nums d)), (.sl 1 x (nums ms))]) = true) (h3 : ((offB (PV.sl 1 t (nums d)).ns (PV.sl 1 x (nums ms)).ns).snd != 0) = true) (hr : (.tup [(.int .i64 0), (.int .i64 ((offB (PV.sl 1 t (nums d)).ns (PV.sl 1 x (nums ms)).ns).snd))]) = r) : Gets T_rat 0 (fun st => fin st rs_rat = some r) ic_rat [] (st0 47 [(.agg [.int .i64 o, .sl 1 t (nums d), .sl 1 u (nums s)]), .sl 1 x (nums ms)]) := Gets.w (.req (.lit (.ans false (.req (.lit (.ans true (.nil))))))) (And.intro h0 (And.intro h1 (And.intro h2 (And.intro h3 hr)))) (by kernel_rfl)
theorem rat_s_2 {r : PV} (o : Int) (d s : List Int) (t u : Bool) (ms : List Int) (x : Bool) (h0 : (pre_v1 [(.agg [(.int .i64 o), (.sl 1 t (nums d)), (.sl 1 u (nums s))])]) = true) (h1 : ((bif formB (PV.agg [PV.int .i64 o, PV.sl 1 t (nums d), PV.sl 1 u (nums s)]).vD (PV.agg [PV.int .i64 o, PV.sl 1 t (nums d), PV.sl 1 u (nums s)]).vS then (0 : Int) else 1) != 0) = false) (h2 : (pre_off [(.sl 1 t (nums d)), (.sl 1 x (nums ms))]) = true) (h3 : ((offB (PV.sl 1 t (nums d)).ns (PV.sl 1 x (nums ms)).ns).snd != 0) = false) (hn : At T_rat 0 (fun st => fin st rs_rat = some r) ic_rat 0 47 [(1, (.pv (.sl 1 x (nums ms)))), (2, (.ptr 0 0)), (9, (.pv (.int .i64 o))), (10, (.pv (.int .i64 0)))] [(.obj (.box [(.pv (.int .i64 o)), (.pv (.sl 1 t (nums d))), (.pv (.sl 1 u (nums s)))]))]) : Gets T_rat 0 (fun st => fin st rs_rat = some r) ic_rat [] (st0 47 [(.agg [.int .i64 o, .sl 1 t (nums d), .sl 1 u (nums s)]), .sl 1 x (nums ms)]) := Gets.w (.req (.lit (.ans false (.req (.lit (.ans false (.nil))))))) (And.intro h0 (And.intro h1 (And.intro h2 (And.intro h3 hn)))) (by kernel_rfl)
theorem rat_h0_0 {r : PV} (o : Int) (d s : List Int) (t u : Bool) (ms : List Int) (x : Bool) (i n : Int) (h0 : (decide (i < (↑(nums ms).length : Int))) = true) (h1 : (decide (0 ≤ i) && decide (i.toNat < (nums ms).length) && 1 == 1) = true) (h2 : (decide (0 + [Sh.int .i64].length ≤ ((nums ms).getD i.toNat default).cells.length) && shFit ((nums ms).getD i.toNat default).cells 0 [Sh.int .i64]) = true) (h3 : (decide (0 ≤ i) && decide (i.toNat < (nums s).length) && 1 == 1) = true) (h4 : (decide (0 + [Sh.int .i64].length ≤ ((nums s).getD i.toNat default).cells.length) && shFit ((nums s).getD i.toNat default).cells 0 [Sh.int .i64]) = true) (hn : At T_rat 0 (fun st => fin st rs_rat = some r) ic_rat 0 47 [(1, (.pv (.sl 1 x (nums ms)))), (2, (.ptr 0 0)), (9, (.pv (.int .i64 (IntKind.i64.wrap (n + IntKind.i64.wrap ((((nums ms).getD i.toNat default).cells.getD 0 default).asInt * (((nums s).getD i.toNat default).cells.getD 0 default).asInt)))))), (10, (.pv (.int .i64 (IntKind.i64.wrap (i + 1)))))] [(.obj (.box [(.pv (.int .i64 o)), (.pv (.sl 1 t (nums d))), (.pv (.sl 1 u (nums s)))]))]) : At T_rat 0 (fun st => fin st rs_rat = some r) ic_rat 0 47 [(1, .pv (.sl 1 x (nums ms))), (2, .ptr 0 0), (9, .pv (.int .i64 n)), (10, .pv (.int .i64 i))] [.obj (.box [.pv (.int .i64 o), .pv (.sl 1 t (nums d)), .pv (.sl 1 u (nums s))])] := At.w (.lit (.ans true (.req (.req (.req (.req (.lit (.lit (.lit (.nil)))))))))) (And.intro h0 (And.intro h1 (And.intro h2 (And.intro h3 (And.intro h4 hn))))) (by kernel_rfl)
theorem rat_h0_1 {r : PV} (o : Int) (d s : List Int) (t u : Bool) (ms : List Int) (x : Bool) (i n : Int) (h0 : (decide (i < (↑(nums ms).length : Int))) = false) (hr : (.tup [(.int .i64 n), (.int .i64 0)]) = r) : At T_rat 0 (fun st => fin st rs_rat = some r) ic_rat 0 47 [(1, .pv (.sl 1 x (nums ms))), (2, .ptr 0 0), (9, .pv (.int .i64 n)), (10, .pv (.int .i64 i))] [.obj (.box [.pv (.int .i64 o), .pv (.sl 1 t (nums d)), .pv (.sl 1 u (nums s))])] := At.w (.lit (.ans false (.nil))) (And.intro h0 hr) (by kernel_rfl)
def ic_few : IC := (.seq (.reg [⟨(some 1), (.box 3 (.t 0)), 0, none⟩, ⟨(some 2), (.mv (.c (.bool false))), 1, none⟩] none) (.seq (.seq (.reg [⟨(some 6), (.faddr 1 (.t 1)), 0, none⟩, ⟨(some 7), (.load false [(.sl 1)] (.t 6)), 0, none⟩, ⟨(some 8), (.len 1 (.t 7)), 0, none⟩, ⟨(some 9), (.bin .num .gtr (.t 8) (.c (.int .i64 8))), 0, none⟩, ⟨(some 10), (.mv (.t 9)), 0, none⟩, ⟨(some 11), (.faddr 2 (.t 1)), 0, (some (10, false))⟩, ⟨(some 12), (.load false [(.sl 1)] (.t 11)), 0, (some (10, false))⟩, ⟨(some 13), (.len 1 (.t 12)), 0, (some (10, false))⟩, ⟨(some 14), (.bin .num .gtr (.t 13) (.c (.int .i64 8))), 0, (some (10, false))⟩, ⟨(some 15), (.pick (.t 10) (.c (.bool true)) (.t 14)), 0, none⟩, ⟨(some 16), (.mv (.t 15)), 0, none⟩, ⟨(some 17), (.faddr 0 (.t 1)), 0, (some (16, false))⟩, ⟨(some 18), (.load false [(.int .i64)] (.t 17)), 0, (some (16, false))⟩, ⟨(some 19), (.bin .num .lss (.t 18) (.c (.int .i64 (-1000000)))), 0, (some (16, false))⟩, ⟨(some 20), (.pick (.t 16) (.c (.bool true)) (.t 19)), 0, none⟩, ⟨(some 21), (.mv (.t 20)), 0, none⟩, ⟨(some 22), (.faddr 0 (.t 1)), 0, (some (21, false))⟩, ⟨(some 23), (.load false [(.int .i64)] (.t 22)), 0, (some (21, false))⟩, ⟨(some 24), (.bin .num .gtr (.t 23) (.c (.int .i64 1000000))), 0, (some (21, false))⟩, ⟨(some 25), (.pick (.t 21) (.c (.bool true)) (.t 24)), 0, none⟩] none) (.cond (.t 25) (.seq (.reg [⟨(some 2), (.mv (.c (.bool false))), 0, none⟩] none) .ret) .skip)) (.seq (.seq (.reg [⟨(some 3), (.mv (.c (.int .i64 0))), 0, none⟩] none) (.block 0 (.loop [3, 1] (.seq (.seq (.reg [⟨(some 26), (.mv (.t 3)), 0, none⟩, ⟨(some 27), (.faddr 2 (.t 1)), 0, none⟩, ⟨(some 28), (.load false [(.sl 1)] (.t 27)), 0, none⟩, ⟨(some 29), (.len 1 (.t 28)), 0, none⟩, ⟨(some 30), (.bin .num .lss (.t 26) (.t 29)), 0, none⟩] none) (.cond (.t 30) .skip (.exit 0))) (.seq (.block 1 (.seq (.reg [⟨(some 33), (.faddr 2 (.t 1)), 0, none⟩, ⟨(some 34), (.load false [(.sl 1)] (.t 33)), 0, none⟩, ⟨(some 35), (.mv (.t 3)), 0, none⟩, ⟨(some 36), (.iaddr 1 (.t 34) (.t 35)), 0, none⟩, ⟨(some 37), (.load false [(.int .i64)] (.t 36)), 0, none⟩, ⟨(some 38), (.bin .num .lss (.t 37) (.c (.int .i64 (-1000000)))), 0, none⟩, ⟨(some 39), (.mv (.t 38)), 0, none⟩, ⟨(some 40), (.faddr 2 (.t 1)), 0, (some (39, false))⟩, ⟨(some 41), (.load false [(.sl 1)] (.t 40)), 0, (some (39, false))⟩, ⟨(some 42), (.mv (.t 3)), 0, (some (39, false))⟩, ⟨(some 43), (.iaddr 1 (.t 41) (.t 42)), 0, (some (39, false))⟩, ⟨(some 44), (.load false [(.int .i64)] (.t 43)), 0, (some (39, false))⟩, ⟨(some 45), (.bin .num .gtr (.t 44) (.c (.int .i64 1000000))), 0, (some (39, false))⟩, ⟨(some 46), (.pick (.t 39) (.c (.bool true)) (.t 45)), 0, none⟩] none) (.cond (.t 46) (.seq (.reg [⟨(some 2), (.mv (.c (.bool false))), 0, none⟩] none) .ret) .skip))) (.reg [⟨(some 31), (.mv (.t 3)), 0, none⟩, ⟨(some 32), (.bin .num .add (.t 31) (.c (.int .i64 1))), 0, none⟩, ⟨(some 3), (.mv (.t 32)), 0, none⟩] none)))))) (.seq (.reg [⟨(some 48), (.faddr 1 (.t 1)), 0, none⟩, ⟨(some 49), (.load false [(.sl 1)] (.t 48)), 0, none⟩, ⟨(some 50), (.call (.c (.fn 35)) [(.t 49)]), 0, none⟩, ⟨(some 47), (.mv (.t 50)), 2, none⟩, ⟨(some 51), (.extract (.t 47) 0), 2, none⟩, ⟨(some 52), (.extract (.t 47) 1), 2, none⟩, ⟨(some 4), (.mv (.t 51)), 2, none⟩, ⟨(some 5), (.mv (.t 52)), 2, none⟩] none) (.seq (.reg [⟨(some 53), (.mv (.t 5)), 0, none⟩, ⟨(some 54), (.bin .num .neq (.t 53) (.c (.int .i64 0))), 0, none⟩, ⟨(some 55), (.mv (.t 54)), 0, none⟩, ⟨(some 56), (.mv (.t 4)), 0, (some (55, false))⟩, ⟨(some 57), (.bin .num .leq (.t 56) (.c (.int .i64 300))), 0, (some (55, false))⟩, ⟨(some 58), (.pick (.t 55) (.c (.bool true)) (.t 57)), 0, none⟩, ⟨(some 2), (.mv (.t 58)), 0, none⟩] none) .ret)))))
def rs_few : List IRes := [(.tmp 2)]
abbrev nt_few : Nat := 59
def T_few : Tab := tab [(35, .pure pre_size val_size)]
theorem few_s_0 {r : PV} (o : Int) (d s : List Int) (t u : Bool) (h0 : (decide ((↑(nums d).length : Int) > 8)) = true) (hr : (.bool false) = r) : Gets T_few 0 (fun st => fin st rs_few = some r) ic_few [] (st0 59 [(.agg [.int .i64 o, .sl 1 t (nums d), .sl 1 u (nums s)])]) := Gets.w (.lit (.ans true (.lit (.lit (.lit (.lit (.lit (.lit (.lit (.lit (.lit (.lit (.lit (.lit (.lit (.nil)))))))))))))))) (And.intro h0 hr) (by kernel_rfl)
theorem few_s_1 {r : PV} (o : Int) (d s : List Int) (t u : Bool) (h0 : (decide ((↑(nums d).length : Int) > 8)) = false) (h1 : (decide ((↑(nums s).length : Int) > 8)) = true) (hr : (.bool false) = r) : Gets T_few 0 (fun st => fin st rs_few = some r) ic_few [] (st0 59 [(.agg [.int .i64 o, .sl 1 t (nums d), .sl 1 u (nums s)])]) := Gets.w (.lit (.ans false (.lit (.lit (.lit (.lit (.lit (.ans true (.lit (.lit (.lit (.lit (.lit (.lit (.lit (.lit (.nil))))))))))))))))) (And.intro h0 (And.intro h1 hr)) (by kernel_rfl)
theorem few_s_2 {r : PV} (o : Int) (d s : List Int) (t u : Bool) (h0 : (decide ((↑(nums d).length : Int) > 8)) = false) (h1 : (decide ((↑(nums s).length : Int) > 8)) = false) (h2 : (decide (o < (-1000000 : Int))) = true) (hr : (.bool false) = r) : Gets T_few 0 (fun st => fin st rs_few = some r) ic_few [] (st0 59 [(.agg [.int .i64 o, .sl 1 t (nums d), .sl 1 u (nums s)])]) := Gets.w (.lit (.ans false (.lit (.lit (.lit (.lit (.lit (.ans false (.lit (.lit (.lit (.lit (.ans true (.lit (.lit (.lit (.lit (.nil)))))))))))))))))) (And.intro h0 (And.intro h1 (And.intro h2 hr))) (by kernel_rfl)
theorem few_s_3 {r : PV} (o : Int) (d s : List Int) (t u : Bool) (h0 : (decide ((↑(nums d).length : Int) > 8)) = false) (h1 : (decide ((↑(nums s).length : Int) > 8)) = false) (h2 : (decide (o < (-1000000 : Int))) = false) (h3 : (decide (o > 1000000)) = true) (hr : (.bool false) = r) : Gets T_few 0 (fun st => fin st rs_few = some r) ic_few [] (st0 59 [(.agg [.int .i64 o, .sl 1 t (nums d), .sl 1 u (nums s)])]) := Gets.w (.lit (.ans false (.lit (.lit (.lit (.lit (.lit (.ans false (.lit (.lit (.lit (.lit (.ans false (.lit (.lit (.lit (.lit (.ans true (.nil))))))))))))))))))) (And.intro h0 (And.intro h1 (And.intro h2 (And.intro h3 hr)))) (by kernel_rfl)
theorem few_s_4 {r : PV} (o : Int) (d s : List Int) (t u : Bool) (h0 : (decide ((↑(nums d).length : Int) > 8)) = false) (h1 : (decide ((↑(nums s).length : Int) > 8)) = false) (h2 : (decide (o < (-1000000 : Int))) = false) (h3 : (decide (o > 1000000)) = false) (hn : At T_few 0 (fun st => fin st rs_few = some r) ic_few 0 59 [(1, (.ptr 0 0)), (3, (.pv (.int .i64 0)))] [(.obj (.box [(.pv (.int .i64 o)), (.pv (.sl 1 t (nums d))), (.pv (.sl 1 u (nums s)))]))]) : Gets T_few 0 (fun st => fin st rs_few = some r) ic_few [] (st0 59 [(.agg [.int .i64 o, .sl 1 t (nums d), .sl 1 u (nums s)])]) := Gets.w (.lit (.ans false (.lit (.lit (.lit (.lit (.lit (.ans false (.lit (.lit (.lit (.lit (.ans false (.lit (.lit (.lit (.lit (.ans false (.nil))))))))))))))))))) (And.intro h0 (And.intro h1 (And.intro h2 (And.intro h3 hn)))) (by kernel_rfl)
theorem few_h0_0 {r : PV} (o : Int) (d s : List Int) (t u : Bool) (i : Int) (h0 : (decide (i < (↑(nums s).length : Int))) = true) (h1 : (decide (0 ≤ i) && decide (i.toNat < (nums s).length) && 1 == 1) = true) (h2 : (decide (0 + [Sh.int .i64].length ≤ ((nums s).getD i.toNat default).cells.length) && shFit ((nums s).getD i.toNat default).cells 0 [Sh.int .i64]) = true) (h3 : (decide ((((nums s).getD i.toNat default).cells.getD 0 default).asInt < (-1000000 : Int))) = true) (hr : (.bool false) = r) : At T_few 0 (fun st => fin st rs_few = some r) ic_few 0 59 [(1, .ptr 0 0), (3, .pv (.int .i64 i))] [.obj (.box [.pv (.int .i64 o), .pv (.sl 1 t (nums d)), .pv (.sl 1 u (nums s))])] := At.w (.lit (.ans true (.req (.req (.lit (.ans true (.lit (.lit (.lit (.lit (.lit (.lit (.lit (.nil)))))))))))))) (And.intro h0 (And.intro h1 (And.intro h2 (And.intro h3 hr)))) (by kernel_rfl)
theorem few_h0_1 {r : PV} (o : Int) (d s : List Int) (t u : Bool) (i : Int) (h0 : (decide (i < (↑(nums s).length : Int))) = true) (h1 : (decide (0 ≤ i) && decide (i.toNat < (nums s).length) && 1 == 1) = true) (h2 : (decide (0 + [Sh.int .i64].length ≤ ((nums s).getD i.toNat default).cells.length) && shFit ((nums s).getD i.toNat default).cells 0 [Sh.int .i64]) = true) (h3 : (decide ((((nums s).getD i.toNat default).cells.getD 0 default).asInt < (-1000000 : Int))) = false) (h4 : (decide ((((nums s).getD i.toNat default).cells.getD 0 default).asInt > 1000000)) = true) (hr : (.bool false) = r) : At T_few 0 (fun st => fin st rs_few = some r) ic_few 0 59 [(1, .ptr 0 0), (3, .pv (.int .i64 i))] [.obj (.box [.pv (.int .i64 o), .pv (.sl 1 t (nums d)), .pv (.sl 1 u (nums s))])] := At.w (.lit (.ans true (.req (.req (.lit (.ans false (.lit (.lit (.lit (.req (.lit (.req (.lit (.lit (.lit (.ans true (.nil))))))))))))))))) (And.intro h0 (And.intro h1 (And.intro h2 (And.intro h3 (And.intro h1 (And.intro h2 (And.intro h4 hr))))))) (by kernel_rfl)
theorem few_h0_2 {r : PV} (o : Int) (d s : List Int) (t u : Bool) (i : Int) (h0 : (decide (i < (↑(nums s).length : Int))) = true) (h1 : (decide (0 ≤ i) && decide (i.toNat < (nums s).length) && 1 == 1) = true) (h2 : (decide (0 + [Sh.int .i64].length ≤ ((nums s).getD i.toNat default).cells.length) && shFit ((nums s).getD i.toNat default).cells 0 [Sh.int .i64]) = true) (h3 : (decide ((((nums s).getD i.toNat default).cells.getD 0 default).asInt < (-1000000 : Int))) = false) (h4 : (decide ((((nums s).getD i.toNat default).cells.getD 0 default).asInt > 1000000)) = false) (hn : At T_few 0 (fun st => fin st rs_few = some r) ic_few 0 59 [(1, (.ptr 0 0)), (3, (.pv (.int .i64 (IntKind.i64.wrap (i + 1)))))] [(.obj (.box [(.pv (.int .i64 o)), (.pv (.sl 1 t (nums d))), (.pv (.sl 1 u (nums s)))]))]) : At T_few 0 (fun st => fin st rs_few = some r) ic_few 0 59 [(1, .ptr 0 0), (3, .pv (.int .i64 i))] [.obj (.box [.pv (.int .i64 o), .pv (.sl 1 t (nums d)), .pv (.sl 1 u (nums s))])] := At.w (.lit (.ans true (.req (.req (.lit (.ans false (.lit (.lit (.lit (.req (.lit (.req (.lit (.lit (.lit (.ans false (.lit (.nil)))))))))))))))))) (And.intro h0 (And.intro h1 (And.intro h2 (And.intro h3 (And.intro h1 (And.intro h2 (And.intro h4 hn))))))) (by kernel_rfl)
theorem few_h0_3 {r : PV} (o : Int) (d s : List Int) (t u : Bool) (i : Int) (h0 : (decide (i < (↑(nums s).length : Int))) = false) (h1 : (pre_size [(.sl 1 t (nums d))]) = true) (h2 : ((sizeB (List.map PV.asInt (nums d))).snd != 0) = true) (hr : (.bool true) = r) : At T_few 0 (fun st => fin st rs_few = some r) ic_few 0 59 [(1, .ptr 0 0), (3, .pv (.int .i64 i))] [.obj (.box [.pv (.int .i64 o), .pv (.sl 1 t (nums d)), .pv (.sl 1 u (nums s))])] := At.w (.lit (.ans false (.req (.lit (.ans true (.lit (.lit (.nil)))))))) (And.intro h0 (And.intro h1 (And.intro h2 hr))) (by kernel_rfl)
theorem few_h0_4 {r : PV} (o : Int) (d s : List Int) (t u : Bool) (i : Int) (h0 : (decide (i < (↑(nums s).length : Int))) = false) (h1 : (pre_size [(.sl 1 t (nums d))]) = true) (h2 : ((sizeB (List.map PV.asInt (nums d))).snd != 0) = false) (hr : (.bool (decide ((sizeB (List.map PV.asInt (nums d))).fst ≤ 300))) = r) : At T_few 0 (fun st => fin st rs_few = some r) ic_few 0 59 [(1, .ptr 0 0), (3, .pv (.int .i64 i))] [.obj (.box [.pv (.int .i64 o), .pv (.sl 1 t (nums d)), .pv (.sl 1 u (nums s))])] := At.w (.lit (.ans false (.req (.lit (.ans false (.lit (.lit (.lit (.nil))))))))) (And.intro h0 (And.intro h1 (And.intro h2 hr))) (by kernel_rfl)
def ic_of : IC := (.seq (.reg [⟨(some 2), (.alloc (.agg [(.int .i64 0), (.sl 0 true []), (.sl 0 true [])])), 0, none⟩, ⟨(some 3), (.mv (.c (.int .i64 0))), 1, none⟩] none) (.seq (.seq (.reg [⟨(some 11), (.mv (.t 0)), 0, none⟩, ⟨(some 12), (.call (.c (.fn 73)) [(.t 11)]), 0, none⟩, ⟨(some 10), (.mv (.t 12)), 2, none⟩, ⟨(some 13), (.extract (.t 10) 0), 2, none⟩, ⟨(some 14), (.extract (.t 10) 1), 2, none⟩, ⟨(some 4), (.mv (.t 13)), 2, none⟩, ⟨(some 5), (.mv (.t 14)), 2, none⟩] none) (.seq (.reg [⟨(some 15), (.mv (.t 5)), 0, none⟩, ⟨(some 16), (.bin .num .neq (.t 15) (.c (.int .i64 0))), 0, none⟩] none) (.cond (.t 16) (.seq (.reg [⟨(some 17), (.build [(.int .i64 0), (.sl 0 true []), (.sl 0 true [])] []), 0, none⟩, ⟨(some 18), (.mv (.t 5)), 0, none⟩, ⟨none, (.store 3 (.t 2) (.t 17)), 0, none⟩, ⟨(some 3), (.mv (.t 18)), 0, none⟩] none) .ret) .skip))) (.seq (.reg [⟨(some 19), (.mv (.t 0)), 0, none⟩, ⟨(some 20), (.call (.c (.fn 74)) [(.t 19)]), 0, none⟩, ⟨(some 21), (.mv (.t 0)), 2, none⟩, ⟨(some 22), (.len 1 (.t 21)), 2, none⟩, ⟨(some 23), (.mksl 3 1 8 (.int .i64 0) (.t 22) (.t 22)), 2, none⟩, ⟨(some 24), (.build [(.int .i64 0), (.sl 0 true []), (.sl 0 true [])] [(1, (1, (.t 20))), (2, (1, (.t 23)))]), 3, none⟩, ⟨(some 6), (.alloc (.agg [(.int .i64 0), (.sl 0 true []), (.sl 0 true [])])), 3, none⟩, ⟨none, (.store 3 (.t 6) (.t 24)), 4, none⟩] (some [[], [0], [], [2], [3, 2], [1, 4, 0, 3, 2], [], [6, 5, 1, 0, 2, 3, 4]])) (.seq (.reg [⟨(some 7), (.mv (.c (.int .i64 1))), 0, none⟩] none) (.seq (.seq (.reg [⟨(some 25), (.mv (.t 0)), 0, none⟩, ⟨(some 26), (.len 1 (.t 25)), 0, none⟩, ⟨(some 27), (.mv (.c (.int .i64 0))), 0, none⟩] none) (.block 0 (.loop [27, 26, 0, 6, 7, 2] (.seq (.reg [⟨(some 28), (.bin .num .lss (.t 27) (.t 26)), 0, none⟩] none) (.seq (.cond (.t 28) .skip (.exit 0)) (.seq (.block 1 (.seq (.reg [⟨(some 29), (.mv (.t 27)), 0, none⟩, ⟨(some 8), (.mv (.t 29)), 0, none⟩] none) (.seq (.reg [⟨(some 30), (.mv (.t 0)), 0, none⟩, ⟨(some 31), (.len 1 (.t 30)), 0, none⟩, ⟨(some 32), (.bin .num .sub (.t 31) (.c (.int .i64 1))), 0, none⟩, ⟨(some 33), (.mv (.t 8)), 0, none⟩, ⟨(some 34), (.bin .num .sub (.t 32) (.t 33)), 0, none⟩, ⟨(some 9), (.mv (.t 34)), 0, none⟩] none) (.seq (.reg [⟨(some 35), (.faddr 2 (.t 6)), 0, none⟩, ⟨(some 36), (.load false [(.sl 1)] (.t 35)), 0, none⟩, ⟨(some 37), (.mv (.t 9)), 0, none⟩, ⟨(some 38), (.mv (.t 7)), 0, none⟩, ⟨(some 39), (.iaddr 1 (.t 36) (.t 37)), 0, none⟩, ⟨none, (.store 1 (.t 39) (.t 38)), 0, none⟩] none) (.reg [⟨(some 40), (.mv (.t 7)), 0, none⟩, ⟨(some 41), (.mv (.t 0)), 0, none⟩, ⟨(some 42), (.mv (.t 9)), 0, none⟩, ⟨(some 43), (.iaddr 1 (.t 41) (.t 42)), 0, none⟩, ⟨(some 44), (.load false [(.int .i64)] (.t 43)), 0, none⟩, ⟨(some 45), (.bin .num .mul (.t 40) (.t 44)), 0, none⟩, ⟨(some 7), (.mv (.t 45)), 0, none⟩] none))))) (.reg [⟨(some 46), (.bin .num .add (.t 27) (.c (.int .i64 1))), 0, none⟩, ⟨(some 27), (.mv (.t 46)), 0, none⟩] none))))))) (.seq (.reg [⟨(some 47), (.load true [(.int .i64), (.sl 1), (.sl 1)] (.t 6)), 0, none⟩, ⟨none, (.store 3 (.t 2) (.t 47)), 0, none⟩, ⟨(some 3), (.mv (.c (.int .i64 0))), 0, none⟩] none) .ret))))))
def rs_of : List IRes := [(.cell true 3 2), (.tmp 3)]
abbrev nt_of : Nat := 48
def T_of : Tab := tab [(73, .pure pre_size val_size), (74, .pure pre_copy val_copy)]
theorem of_s_0 {r : PV} (ns : List Int) (t : Bool) (h0 : (pre_size [(.sl 1 t (nums ns))]) = true) (h1 : ((sizeB (List.map PV.asInt (nums ns))).snd != 0) = true) (hr : (.tup [(.agg [(.int .i64 0), (.sl 0 true []), (.sl 0 true [])]), (.int .i64 ((sizeB (List.map PV.asInt (nums ns))).snd))]) = r) : Gets T_of 0 (fun st => fin st rs_of = some r) ic_of [] (st0 48 [.sl 1 t (nums ns)]) := Gets.w (.req (.lit (.ans true (.nil)))) (And.intro h0 (And.intro h1 hr)) (by kernel_rfl)
theorem of_s_1 {r : PV} (ns : List Int) (t : Bool) (h0 : (pre_size [(.sl 1 t (nums ns))]) = true) (h1 : ((sizeB (List.map PV.asInt (nums ns))).snd != 0) = false) (h2 : (pre_copy [(.sl 1 t (nums ns))]) = true) (h3 : (decide (0 ≤ (↑(nums ns).length : Int)) && (↑(nums ns).length : Int) == (↑(nums ns).length : Int) && decide ((↑(nums ns).length : Int) * (↑8 : Int) ≤ 1099511627776) && decide ((↑(nums ns).length : Int) ≤ 1099511627776)) = true) (hn : At T_of 0 (fun st => fin st rs_of = some r) ic_of 0 48 [(0, (.pv (.sl 1 t (nums ns)))), (2, (.ptr 0 0)), (6, (.ptr 1 0)), (7, (.pv (.int .i64 1))), (26, (.pv (.int .i64 (↑(nums ns).length : Int)))), (27, (.pv (.int .i64 0)))] [(.obj (.box [(.pv (.int .i64 0)), (.pv (.sl 0 true [])), (.pv (.sl 0 true []))])), (.obj (.box [(.pv (.int .i64 0)), (.pv (.sl 1 false (nums ns))), (.row 2 ((↑(nums ns).length : Int).toNat) 0 ((↑(nums ns).length : Int).toNat))])), (.obj (.row false 3 1 (List.replicate (↑(nums ns).length : Int).toNat (PV.int .i64 0))))]) : Gets T_of 0 (fun st => fin st rs_of = some r) ic_of [] (st0 48 [.sl 1 t (nums ns)]) := Gets.w (.req (.lit (.ans false (.req (.req (.nil)))))) (And.intro h0 (And.intro h1 (And.intro h2 (And.intro h3 hn)))) (by kernel_rfl)
theorem of_h0_0 {r : PV} (ns : List Int) (t : Bool) (i n : Int) (xs : List Int) (h0 : (decide (i < (↑(nums ns).length : Int))) = true) (h1 : (decide (0 ≤ IntKind.i64.wrap (IntKind.i64.wrap ((↑(nums ns).length : Int) - 1) - i)) && decide (0 + (IntKind.i64.wrap (IntKind.i64.wrap ((↑(nums ns).length : Int) - 1) - i)).toNat < (↑(nums ns).length : Int).toNat) && (nums xs).length == (↑(nums ns).length : Int).toNat) = true) (h2 : ((nums xs).length == (↑(nums ns).length : Int).toNat && decide (0 + (IntKind.i64.wrap (IntKind.i64.wrap ((↑(nums ns).length : Int) - 1) - i)).toNat < (nums xs).length) && (PV.int .i64 n).cells.length == 1 && decide (0 + 1 ≤ ((nums xs).getD (0 + (IntKind.i64.wrap (IntKind.i64.wrap ((↑(nums ns).length : Int) - 1) - i)).toNat) default).cells.length) && (PV.int .i64 n).cellsOk) = true) (h3 : (decide (0 ≤ IntKind.i64.wrap (IntKind.i64.wrap ((↑(nums ns).length : Int) - 1) - i)) && decide ((IntKind.i64.wrap (IntKind.i64.wrap ((↑(nums ns).length : Int) - 1) - i)).toNat < (nums ns).length) && 1 == 1) = true) (h4 : (decide (0 + [Sh.int .i64].length ≤ ((nums ns).getD (IntKind.i64.wrap (IntKind.i64.wrap ((↑(nums ns).length : Int) - 1) - i)).toNat default).cells.length) && shFit ((nums ns).getD (IntKind.i64.wrap (IntKind.i64.wrap ((↑(nums ns).length : Int) - 1) - i)).toNat default).cells 0 [Sh.int .i64]) = true) (hn : At T_of 0 (fun st => fin st rs_of = some r) ic_of 0 48 [(0, (.pv (.sl 1 t (nums ns)))), (2, (.ptr 0 0)), (6, (.ptr 1 0)), (7, (.pv (.int .i64 (IntKind.i64.wrap (n * (((nums ns).getD (IntKind.i64.wrap (IntKind.i64.wrap ((↑(nums ns).length : Int) - 1) - i)).toNat default).cells.getD 0 default).asInt))))), (26, (.pv (.int .i64 (↑(nums ns).length : Int)))), (27, (.pv (.int .i64 (IntKind.i64.wrap (i + 1)))))] [(.obj (.box [(.pv (.int .i64 0)), (.pv (.sl 0 true [])), (.pv (.sl 0 true []))])), (.obj (.box [(.pv (.int .i64 0)), (.pv (.sl 1 false (nums ns))), (.row 2 ((↑(nums ns).length : Int).toNat) 0 ((↑(nums ns).length : Int).toNat))])), (.obj (.row false 3 1 ((nums xs).set (0 + (IntKind.i64.wrap (IntKind.i64.wrap ((↑(nums ns).length : Int) - 1) - i)).toNat) (((nums xs).getD (0 + (IntKind.i64.wrap (IntKind.i64.wrap ((↑(nums ns).length : Int) - 1) - i)).toNat) default).withCells (splice ((nums xs).getD (0 + (IntKind.i64.wrap (IntKind.i64.wrap ((↑(nums ns).length : Int) - 1) - i)).toNat) default).cells 0 (PV.int .i64 n).cells)))))]) : At T_of 0 (fun st => fin st rs_of = some r) ic_of 0 48 [(0, .pv (.sl 1 t (nums ns))), (2, .ptr 0 0), (6, .ptr 1 0), (7, .pv (.int .i64 n)), (26, .pv (.int .i64 (nums ns).length)), (27, .pv (.int .i64 i))] [(.obj (.box [.pv (.int .i64 0), .pv (.sl 0 true []), .pv (.sl 0 true [])])), (.obj (.box [.pv (.int .i64 0), .pv (.sl 1 false (nums ns)), .row 2 (((nums ns).length : Int).toNat) 0 (((nums ns).length : Int).toNat)])), (.obj (.row false 3 1 (nums xs)))] := At.w (.lit (.ans true (.lit (.lit (.req (.req (.req (.req (.lit (.lit (.nil))))))))))) (And.intro h0 (And.intro h1 (And.intro h2 (And.intro h3 (And.intro h4 hn))))) (by kernel_rfl)
theorem of_h0_1 {r : PV} (ns : List Int) (t : Bool) (i n : Int) (xs : List Int) (h0 : (decide (i < (↑(nums ns).length : Int))) = false) (h1 : ((nums xs).length == (↑(nums ns).length : Int).toNat) = true) (hr : (.tup [(.agg [(.int .i64 0), (.sl 1 false (nums ns)), (.sl 1 false (List.drop 0 (List.take (↑(nums ns).length : Int).toNat (nums xs))))]), (.int .i64 0)]) = r) : At T_of 0 (fun st => fin st rs_of = some r) ic_of 0 48 [(0, .pv (.sl 1 t (nums ns))), (2, .ptr 0 0), (6, .ptr 1 0), (7, .pv (.int .i64 n)), (26, .pv (.int .i64 (nums ns).length)), (27, .pv (.int .i64 i))] [(.obj (.box [.pv (.int .i64 0), .pv (.sl 0 true []), .pv (.sl 0 true [])])), (.obj (.box [.pv (.int .i64 0), .pv (.sl 1 false (nums ns)), .row 2 (((nums ns).length : Int).toNat) 0 (((nums ns).length : Int).toNat)])), (.obj (.row false 3 1 (nums xs)))] := At.w (.lit (.ans false (.req (.nil)))) (And.intro h0 (And.intro h1 hr)) (by kernel_rfl)
def ic_aidx : IC := (.seq (.reg [⟨(some 4), (.mv (.c (.sl 0 true []))), 0, none⟩, ⟨(some 5), (.mv (.c (.int .i64 0))), 0, none⟩] none) (.seq (.reg [⟨(some 12), (.mv (.t 0)), 0, none⟩, ⟨(some 13), (.call (.c (.fn 73)) [(.t 12)]), 0, none⟩, ⟨(some 11), (.mv (.t 13)), 2, none⟩, ⟨(some 14), (.extract (.t 11) 0), 2, none⟩, ⟨(some 15), (.extract (.t 11) 1), 2, none⟩, ⟨(some 6), (.mv (.t 14)), 2, none⟩, ⟨(some 7), (.mv (.t 15)), 2, none⟩] none) (.seq (.seq (.reg [⟨(some 16), (.mv (.t 7)), 0, none⟩, ⟨(some 17), (.bin .num .neq (.t 16) (.c (.int .i64 0))), 0, none⟩] none) (.cond (.t 17) (.seq (.reg [⟨(some 18), (.mv (.t 7)), 0, none⟩, ⟨(some 4), (.mv (.c (.sl 0 true []))), 0, none⟩, ⟨(some 5), (.mv (.t 18)), 0, none⟩] none) .ret) .skip)) (.seq (.seq (.reg [⟨(some 19), (.mv (.t 1)), 0, none⟩, ⟨(some 20), (.bin .num .lss (.t 19) (.c (.int .i64 0))), 0, none⟩, ⟨(some 21), (.mv (.t 20)), 0, none⟩, ⟨(some 22), (.mv (.t 1)), 0, (some (21, false))⟩, ⟨(some 23), (.mv (.t 6)), 0, (some (21, false))⟩, ⟨(some 24), (.bin .num .geq (.t 22) (.t 23)), 0, (some (21, false))⟩, ⟨(some 25), (.pick (.t 21) (.c (.bool true)) (.t 24)), 0, none⟩] none) (.cond (.t 25) (.seq (.reg [⟨(some 4), (.mv (.c (.sl 0 true []))), 0, none⟩, ⟨(some 5), (.mv (.c (.int .i64 2))), 0, none⟩] none) .ret) .skip)) (.seq (.reg [⟨(some 26), (.mv (.t 0)), 0, none⟩, ⟨(some 27), (.len 1 (.t 26)), 0, none⟩, ⟨(some 28), (.mksl 3 1 8 (.int .i64 0) (.t 27) (.t 27)), 0, none⟩, ⟨(some 8), (.mv (.t 28)), 1, none⟩] none) (.seq (.seq (.reg [⟨(some 29), (.mv (.t 0)), 0, none⟩, ⟨(some 30), (.len 1 (.t 29)), 0, none⟩, ⟨(some 31), (.mv (.c (.int .i64 0))), 0, none⟩] none) (.block 0 (.loop [31, 30, 0, 8, 1] (.seq (.reg [⟨(some 32), (.bin .num .lss (.t 31) (.t 30)), 0, none⟩] none) (.seq (.cond (.t 32) .skip (.exit 0)) (.seq (.block 1 (.seq (.reg [⟨(some 33), (.mv (.t 31)), 0, none⟩, ⟨(some 9), (.mv (.t 33)), 0, none⟩] none) (.seq (.reg [⟨(some 34), (.mv (.t 0)), 0, none⟩, ⟨(some 35), (.len 1 (.t 34)), 0, none⟩, ⟨(some 36), (.bin .num .sub (.t 35) (.c (.int .i64 1))), 0, none⟩, ⟨(some 37), (.mv (.t 9)), 0, none⟩, ⟨(some 38), (.bin .num .sub (.t 36) (.t 37)), 0, none⟩, ⟨(some 10), (.mv (.t 38)), 0, none⟩] none) (.seq (.reg [⟨(some 39), (.mv (.t 8)), 0, none⟩, ⟨(some 40), (.mv (.t 10)), 0, none⟩, ⟨(some 41), (.mv (.t 1)), 0, none⟩, ⟨(some 42), (.mv (.t 0)), 0, none⟩, ⟨(some 43), (.mv (.t 10)), 0, none⟩, ⟨(some 44), (.iaddr 1 (.t 42) (.t 43)), 0, none⟩, ⟨(some 45), (.load false [(.int .i64)] (.t 44)), 0, none⟩, ⟨(some 46), (.bin .num .rem (.t 41) (.t 45)), 0, none⟩, ⟨(some 47), (.iaddr 1 (.t 39) (.t 40)), 0, none⟩, ⟨none, (.store 1 (.t 47) (.t 46)), 0, none⟩] none) (.reg [⟨(some 48), (.mv (.t 1)), 0, none⟩, ⟨(some 49), (.mv (.t 0)), 0, none⟩, ⟨(some 50), (.mv (.t 10)), 0, none⟩, ⟨(some 51), (.iaddr 1 (.t 49) (.t 50)), 0, none⟩, ⟨(some 52), (.load false [(.int .i64)] (.t 51)), 0, none⟩, ⟨(some 53), (.bin .num .quo (.t 48) (.t 52)), 0, none⟩, ⟨(some 1), (.mv (.t 53)), 0, none⟩] none))))) (.reg [⟨(some 54), (.bin .num .add (.t 31) (.c (.int .i64 1))), 0, none⟩, ⟨(some 31), (.mv (.t 54)), 0, none⟩] none))))))) (.seq (.reg [⟨(some 55), (.mv (.t 8)), 0, none⟩, ⟨(some 4), (.mv (.t 55)), 0, none⟩, ⟨(some 5), (.mv (.c (.int .i64 0))), 0, none⟩] none) .ret)))))))
def rs_aidx : List IRes := [(.tmp 4), (.tmp 5)]
abbrev nt_aidx : Nat := 56
def T_aidx : Tab := tab [(73, .pure pre_size val_size)]
theorem aidx_s_0 {r : PV} (ns : List Int) (t : Bool) (k : Int) (h0 : (pre_size [(.sl 1 t (nums ns))]) = true) (h1 : ((sizeB (List.map PV.asInt (nums ns))).snd != 0) = true) (hr : (.tup [(.sl 0 true []), (.int .i64 ((sizeB (List.map PV.asInt (nums ns))).snd))]) = r) : Gets T_aidx 0 (fun st => fin st rs_aidx = some r) ic_aidx [] (st0 56 [.sl 1 t (nums ns), .int .i64 k]) := Gets.w (.req (.lit (.ans true (.nil)))) (And.intro h0 (And.intro h1 hr)) (by kernel_rfl)
theorem aidx_s_1 {r : PV} (ns : List Int) (t : Bool) (k : Int) (h0 : (pre_size [(.sl 1 t (nums ns))]) = true) (h1 : ((sizeB (List.map PV.asInt (nums ns))).snd != 0) = false) (h2 : (decide (k < 0)) = true) (hr : (.tup [(.sl 0 true []), (.int .i64 2)]) = r) : Gets T_aidx 0 (fun st => fin st rs_aidx = some r) ic_aidx [] (st0 56 [.sl 1 t (nums ns), .int .i64 k]) := Gets.w (.req (.lit (.ans false (.lit (.ans true (.lit (.lit (.lit (.lit (.nil)))))))))) (And.intro h0 (And.intro h1 (And.intro h2 hr))) (by kernel_rfl)
theorem aidx_s_2 {r : PV} (ns : List Int) (t : Bool) (k : Int) (h0 : (pre_size [(.sl 1 t (nums ns))]) = true) (h1 : ((sizeB (List.map PV.asInt (nums ns))).snd != 0) = false) (h2 : (decide (k < 0)) = false) (h3 : (decide (k ≥ (sizeB (List.map PV.asInt (nums ns))).fst)) = true) (hr : (.tup [(.sl 0 true []), (.int .i64 2)]) = r) : Gets T_aidx 0 (fun st => fin st rs_aidx = some r) ic_aidx [] (st0 56 [.sl 1 t (nums ns), .int .i64 k]) := Gets.w (.req (.lit (.ans false (.lit (.ans false (.lit (.lit (.lit (.lit (.ans true (.nil))))))))))) (And.intro h0 (And.intro h1 (And.intro h2 (And.intro h3 hr)))) (by kernel_rfl)
theorem aidx_s_3 {r : PV} (ns : List Int) (t : Bool) (k : Int) (h0 : (pre_size [(.sl 1 t (nums ns))]) = true) (h1 : ((sizeB (List.map PV.asInt (nums ns))).snd != 0) = false) (h2 : (decide (k < 0)) = false) (h3 : (decide (k ≥ (sizeB (List.map PV.asInt (nums ns))).fst)) = false) (h4 : (decide (0 ≤ (↑(nums ns).length : Int)) && (↑(nums ns).length : Int) == (↑(nums ns).length : Int) && decide ((↑(nums ns).length : Int) * (↑8 : Int) ≤ 1099511627776) && decide ((↑(nums ns).length : Int) ≤ 1099511627776)) = true) (hn : At T_aidx 0 (fun st => fin st rs_aidx = some r) ic_aidx 0 56 [(0, (.pv (.sl 1 t (nums ns)))), (1, (.pv (.int .i64 k))), (8, (.row 0 ((↑(nums ns).length : Int).toNat) 0 ((↑(nums ns).length : Int).toNat))), (30, (.pv (.int .i64 (↑(nums ns).length : Int)))), (31, (.pv (.int .i64 0)))] [(.obj (.row false 3 1 (List.replicate (↑(nums ns).length : Int).toNat (PV.int .i64 0))))]) : Gets T_aidx 0 (fun st => fin st rs_aidx = some r) ic_aidx [] (st0 56 [.sl 1 t (nums ns), .int .i64 k]) := Gets.w (.req (.lit (.ans false (.lit (.ans false (.lit (.lit (.lit (.lit (.ans false (.req (.nil)))))))))))) (And.intro h0 (And.intro h1 (And.intro h2 (And.intro h3 (And.intro h4 hn))))) (by kernel_rfl)
theorem aidx_h0_0 {r : PV} (ns : List Int) (t : Bool) (k : Int) (i : Int) (xs : List Int) (h0 : (decide (i < (↑(nums ns).length : Int))) = true) (h1 : (decide (0 ≤ IntKind.i64.wrap (IntKind.i64.wrap ((↑(nums ns).length : Int) - 1) - i)) && decide ((IntKind.i64.wrap (IntKind.i64.wrap ((↑(nums ns).length : Int) - 1) - i)).toNat < (nums ns).length) && 1 == 1) = true) (h2 : (decide (0 + [Sh.int .i64].length ≤ ((nums ns).getD (IntKind.i64.wrap (IntKind.i64.wrap ((↑(nums ns).length : Int) - 1) - i)).toNat default).cells.length) && shFit ((nums ns).getD (IntKind.i64.wrap (IntKind.i64.wrap ((↑(nums ns).length : Int) - 1) - i)).toNat default).cells 0 [Sh.int .i64]) = true) (h3 : ((((nums ns).getD (IntKind.i64.wrap (IntKind.i64.wrap ((↑(nums ns).length : Int) - 1) - i)).toNat default).cells.getD 0 default).asInt != 0) = true) (h4 : (decide (0 ≤ IntKind.i64.wrap (IntKind.i64.wrap ((↑(nums ns).length : Int) - 1) - i)) && decide (0 + (IntKind.i64.wrap (IntKind.i64.wrap ((↑(nums ns).length : Int) - 1) - i)).toNat < (↑(nums ns).length : Int).toNat) && (nums xs).length == (↑(nums ns).length : Int).toNat) = true) (h5 : ((nums xs).length == (↑(nums ns).length : Int).toNat && decide (0 + (IntKind.i64.wrap (IntKind.i64.wrap ((↑(nums ns).length : Int) - 1) - i)).toNat < (nums xs).length) && (PV.int .i64 (k.tmod (((nums ns).getD (IntKind.i64.wrap (IntKind.i64.wrap ((↑(nums ns).length : Int) - 1) - i)).toNat default).cells.getD 0 default).asInt)).cells.length == 1 && decide (0 + 1 ≤ ((nums xs).getD (0 + (IntKind.i64.wrap (IntKind.i64.wrap ((↑(nums ns).length : Int) - 1) - i)).toNat) default).cells.length) && (PV.int .i64 (k.tmod (((nums ns).getD (IntKind.i64.wrap (IntKind.i64.wrap ((↑(nums ns).length : Int) - 1) - i)).toNat default).cells.getD 0 default).asInt)).cellsOk) = true) (hn : At T_aidx 0 (fun st => fin st rs_aidx = some r) ic_aidx 0 56 [(0, (.pv (.sl 1 t (nums ns)))), (1, (.pv (.int .i64 (IntKind.i64.wrap (k.tdiv (((nums ns).getD (IntKind.i64.wrap (IntKind.i64.wrap ((↑(nums ns).length : Int) - 1) - i)).toNat default).cells.getD 0 default).asInt))))), (8, (.row 0 ((↑(nums ns).length : Int).toNat) 0 ((↑(nums ns).length : Int).toNat))), (30, (.pv (.int .i64 (↑(nums ns).length : Int)))), (31, (.pv (.int .i64 (IntKind.i64.wrap (i + 1)))))] [(.obj (.row false 3 1 ((nums xs).set (0 + (IntKind.i64.wrap (IntKind.i64.wrap ((↑(nums ns).length : Int) - 1) - i)).toNat) (((nums xs).getD (0 + (IntKind.i64.wrap (IntKind.i64.wrap ((↑(nums ns).length : Int) - 1) - i)).toNat) default).withCells (splice ((nums xs).getD (0 + (IntKind.i64.wrap (IntKind.i64.wrap ((↑(nums ns).length : Int) - 1) - i)).toNat) default).cells 0 (PV.int .i64 (k.tmod (((nums ns).getD (IntKind.i64.wrap (IntKind.i64.wrap ((↑(nums ns).length : Int) - 1) - i)).toNat default).cells.getD 0 default).asInt)).cells)))))]) : At T_aidx 0 (fun st => fin st rs_aidx = some r) ic_aidx 0 56 [(0, .pv (.sl 1 t (nums ns))), (1, .pv (.int .i64 k)), (8, .row 0 (((nums ns).length : Int).toNat) 0 (((nums ns).length : Int).toNat)), (30, .pv (.int .i64 (nums ns).length)), (31, .pv (.int .i64 i))] [.obj (.row false 3 1 (nums xs))] := At.w (.lit (.ans true (.lit (.lit (.req (.req (.req (.req (.req (.req (.req (.req (.lit (.nil)))))))))))))) (And.intro h0 (And.intro h1 (And.intro h2 (And.intro h3 (And.intro h4 (And.intro h5 (And.intro h1 (And.intro h2 (And.intro h3 hn))))))))) (by kernel_rfl)
theorem aidx_h0_1 {r : PV} (ns : List Int) (t : Bool) (k : Int) (i : Int) (xs : List Int) (h0 : (decide (i < (↑(nums ns).length : Int))) = false) (h1 : ((nums xs).length == (↑(nums ns).length : Int).toNat) = true) (hr : (.tup [(.sl 1 false (List.drop 0 (List.take (↑(nums ns).length : Int).toNat (nums xs)))), (.int .i64 0)]) = r) : At T_aidx 0 (fun st => fin st rs_aidx = some r) ic_aidx 0 56 [(0, .pv (.sl 1 t (nums ns))), (1, .pv (.int .i64 k)), (8, .row 0 (((nums ns).length : Int).toNat) 0 (((nums ns).length : Int).toNat)), (30, .pv (.int .i64 (nums ns).length)), (31, .pv (.int .i64 i))] [.obj (.row false 3 1 (nums xs))] := At.w (.lit (.ans false (.req (.nil)))) (And.intro h0 (And.intro h1 hr)) (by kernel_rfl)
def ic_ridx : IC := (.seq (.reg [⟨(some 4), (.mv (.c (.sl 0 true []))), 0, none⟩, ⟨(some 5), (.mv (.c (.int .i64 0))), 0, none⟩] none) (.seq (.reg [⟨(some 11), (.mv (.t 0)), 0, none⟩, ⟨(some 12), (.call (.c (.fn 35)) [(.t 11)]), 0, none⟩, ⟨(some 10), (.mv (.t 12)), 2, none⟩, ⟨(some 13), (.extract (.t 10) 0), 2, none⟩, ⟨(some 14), (.extract (.t 10) 1), 2, none⟩, ⟨(some 6), (.mv (.t 13)), 2, none⟩, ⟨(some 7), (.mv (.t 14)), 2, none⟩] none) (.seq (.seq (.reg [⟨(some 15), (.mv (.t 7)), 0, none⟩, ⟨(some 16), (.bin .num .neq (.t 15) (.c (.int .i64 0))), 0, none⟩] none) (.cond (.t 16) (.seq (.reg [⟨(some 17), (.mv (.t 7)), 0, none⟩, ⟨(some 4), (.mv (.c (.sl 0 true []))), 0, none⟩, ⟨(some 5), (.mv (.t 17)), 0, none⟩] none) .ret) .skip)) (.seq (.seq (.reg [⟨(some 18), (.mv (.t 1)), 0, none⟩, ⟨(some 19), (.bin .num .lss (.t 18) (.c (.int .i64 0))), 0, none⟩, ⟨(some 20), (.mv (.t 19)), 0, none⟩, ⟨(some 21), (.mv (.t 1)), 0, (some (20, false))⟩, ⟨(some 22), (.mv (.t 6)), 0, (some (20, false))⟩, ⟨(some 23), (.bin .num .geq (.t 21) (.t 22)), 0, (some (20, false))⟩, ⟨(some 24), (.pick (.t 20) (.c (.bool true)) (.t 23)), 0, none⟩] none) (.cond (.t 24) (.seq (.reg [⟨(some 4), (.mv (.c (.sl 0 true []))), 0, none⟩, ⟨(some 5), (.mv (.c (.int .i64 2))), 0, none⟩] none) .ret) .skip)) (.seq (.reg [⟨(some 25), (.mv (.t 0)), 0, none⟩, ⟨(some 26), (.len 1 (.t 25)), 0, none⟩, ⟨(some 27), (.mksl 3 1 8 (.int .i64 0) (.t 26) (.t 26)), 0, none⟩, ⟨(some 8), (.mv (.t 27)), 1, none⟩] none) (.seq (.seq (.reg [⟨(some 28), (.mv (.t 0)), 0, none⟩, ⟨(some 29), (.len 1 (.t 28)), 0, none⟩, ⟨(some 30), (.bin .num .sub (.t 29) (.c (.int .i64 1))), 0, none⟩, ⟨(some 9), (.mv (.t 30)), 0, none⟩] none) (.block 0 (.loop [9, 8, 1, 0] (.seq (.seq (.reg [⟨(some 31), (.mv (.t 9)), 0, none⟩, ⟨(some 32), (.bin .num .geq (.t 31) (.c (.int .i64 0))), 0, none⟩] none) (.cond (.t 32) .skip (.exit 0))) (.seq (.block 1 (.seq (.reg [⟨(some 35), (.mv (.t 8)), 0, none⟩, ⟨(some 36), (.mv (.t 9)), 0, none⟩, ⟨(some 37), (.mv (.t 1)), 0, none⟩, ⟨(some 38), (.mv (.t 0)), 0, none⟩, ⟨(some 39), (.mv (.t 9)), 0, none⟩, ⟨(some 40), (.iaddr 1 (.t 38) (.t 39)), 0, none⟩, ⟨(some 41), (.load false [(.int .i64)] (.t 40)), 0, none⟩, ⟨(some 42), (.bin .num .rem (.t 37) (.t 41)), 0, none⟩, ⟨(some 43), (.iaddr 1 (.t 35) (.t 36)), 0, none⟩, ⟨none, (.store 1 (.t 43) (.t 42)), 0, none⟩] none) (.reg [⟨(some 44), (.mv (.t 1)), 0, none⟩, ⟨(some 45), (.mv (.t 0)), 0, none⟩, ⟨(some 46), (.mv (.t 9)), 0, none⟩, ⟨(some 47), (.iaddr 1 (.t 45) (.t 46)), 0, none⟩, ⟨(some 48), (.load false [(.int .i64)] (.t 47)), 0, none⟩, ⟨(some 49), (.bin .num .quo (.t 44) (.t 48)), 0, none⟩, ⟨(some 1), (.mv (.t 49)), 0, none⟩] none))) (.reg [⟨(some 33), (.mv (.t 9)), 0, none⟩, ⟨(some 34), (.bin .num .sub (.t 33) (.c (.int .i64 1))), 0, none⟩, ⟨(some 9), (.mv (.t 34)), 0, none⟩] none)))))) (.seq (.reg [⟨(some 50), (.mv (.t 8)), 0, none⟩, ⟨(some 4), (.mv (.t 50)), 0, none⟩, ⟨(some 5), (.mv (.c (.int .i64 0))), 0, none⟩] none) .ret)))))))
def rs_ridx : List IRes := [(.tmp 4), (.tmp 5)]
abbrev nt_ridx : Nat := 51
def T_ridx : Tab := tab [(35, .pure pre_size val_size)]
theorem ridx_s_0 {r : PV} (ns : List Int) (t : Bool) (k : Int) (h0 : (pre_size [(.sl 1 t (nums ns))]) = true) (h1 : ((sizeB (List.map PV.asInt (nums ns))).snd != 0) = true) (hr : (.tup [(.sl 0 true []), (.int .i64 ((sizeB (List.map PV.asInt (nums ns))).snd))]) = r) : Gets T_ridx 0 (fun st => fin st rs_ridx = some r) ic_ridx [] (st0 51 [.sl 1 t (nums ns), .int .i64 k]) := Gets.w (.req (.lit (.ans true (.nil)))) (And.intro h0 (And.intro h1 hr)) (by kernel_rfl)
theorem ridx_s_1 {r : PV} (ns : List Int) (t : Bool) (k : Int) (h0 : (pre_size [(.sl 1 t (nums ns))]) = true) (h1 : ((sizeB (List.map PV.asInt (nums ns))).snd != 0) = false) (h2 : (decide (k < 0)) = true) (hr : (.tup [(.sl 0 true []), (.int .i64 2)]) = r) : Gets T_ridx 0 (fun st => fin st rs_ridx = some r) ic_ridx [] (st0 51 [.sl 1 t (nums ns), .int .i64 k]) := Gets.w (.req (.lit (.ans false (.lit (.ans true (.lit (.lit (.lit (.lit (.nil)))))))))) (And.intro h0 (And.intro h1 (And.intro h2 hr))) (by kernel_rfl)
theorem ridx_s_2 {r : PV} (ns : List Int) (t : Bool) (k : Int) (h0 : (pre_size [(.sl 1 t (nums ns))]) = true) (h1 : ((sizeB (List.map PV.asInt (nums ns))).snd != 0) = false) (h2 : (decide (k < 0)) = false) (h3 : (decide (k ≥ (sizeB (List.map PV.asInt (nums ns))).fst)) = true) (hr : (.tup [(.sl 0 true []), (.int .i64 2)]) = r) : Gets T_ridx 0 (fun st => fin st rs_ridx = some r) ic_ridx [] (st0 51 [.sl 1 t (nums ns), .int .i64 k]) := Gets.w (.req (.lit (.ans false (.lit (.ans false (.lit (.lit (.lit (.lit (.ans true (.nil))))))))))) (And.intro h0 (And.intro h1 (And.intro h2 (And.intro h3 hr)))) (by kernel_rfl)
theorem ridx_s_3 {r : PV} (ns : List Int) (t : Bool) (k : Int) (h0 : (pre_size [(.sl 1 t (nums ns))]) = true) (h1 : ((sizeB (List.map PV.asInt (nums ns))).snd != 0) = false) (h2 : (decide (k < 0)) = false) (h3 : (decide (k ≥ (sizeB (List.map PV.asInt (nums ns))).fst)) = false) (h4 : (decide (0 ≤ (↑(nums ns).length : Int)) && (↑(nums ns).length : Int) == (↑(nums ns).length : Int) && decide ((↑(nums ns).length : Int) * (↑8 : Int) ≤ 1099511627776) && decide ((↑(nums ns).length : Int) ≤ 1099511627776)) = true) (hn : At T_ridx 0 (fun st => fin st rs_ridx = some r) ic_ridx 0 51 [(0, (.pv (.sl 1 t (nums ns)))), (1, (.pv (.int .i64 k))), (8, (.row 0 ((↑(nums ns).length : Int).toNat) 0 ((↑(nums ns).length : Int).toNat))), (9, (.pv (.int .i64 (IntKind.i64.wrap ((↑(nums ns).length : Int) - 1)))))] [(.obj (.row false 3 1 (List.replicate (↑(nums ns).length : Int).toNat (PV.int .i64 0))))]) : Gets T_ridx 0 (fun st => fin st rs_ridx = some r) ic_ridx [] (st0 51 [.sl 1 t (nums ns), .int .i64 k]) := Gets.w (.req (.lit (.ans false (.lit (.ans false (.lit (.lit (.lit (.lit (.ans false (.req (.lit (.nil))))))))))))) (And.intro h0 (And.intro h1 (And.intro h2 (And.intro h3 (And.intro h4 hn))))) (by kernel_rfl)
theorem ridx_h0_0 {r : PV} (ns : List Int) (t : Bool) (k : Int) (i : Int) (xs : List Int) (h0 : (decide (i ≥ 0)) = true) (h1 : (decide (0 ≤ i) && decide (i.toNat < (nums ns).length) && 1 == 1) = true) (h2 : (decide (0 + [Sh.int .i64].length ≤ ((nums ns).getD i.toNat default).cells.length) && shFit ((nums ns).getD i.toNat default).cells 0 [Sh.int .i64]) = true) (h3 : ((((nums ns).getD i.toNat default).cells.getD 0 default).asInt != 0) = true) (h4 : (decide (0 ≤ i) && decide (0 + i.toNat < (↑(nums ns).length : Int).toNat) && (nums xs).length == (↑(nums ns).length : Int).toNat) = true) (h5 : ((nums xs).length == (↑(nums ns).length : Int).toNat && decide (0 + i.toNat < (nums xs).length) && (PV.int .i64 (k.tmod (((nums ns).getD i.toNat default).cells.getD 0 default).asInt)).cells.length == 1 && decide (0 + 1 ≤ ((nums xs).getD (0 + i.toNat) default).cells.length) && (PV.int .i64 (k.tmod (((nums ns).getD i.toNat default).cells.getD 0 default).asInt)).cellsOk) = true) (hn : At T_ridx 0 (fun st => fin st rs_ridx = some r) ic_ridx 0 51 [(0, (.pv (.sl 1 t (nums ns)))), (1, (.pv (.int .i64 (IntKind.i64.wrap (k.tdiv (((nums ns).getD i.toNat default).cells.getD 0 default).asInt))))), (8, (.row 0 ((↑(nums ns).length : Int).toNat) 0 ((↑(nums ns).length : Int).toNat))), (9, (.pv (.int .i64 (IntKind.i64.wrap (i - 1)))))] [(.obj (.row false 3 1 ((nums xs).set (0 + i.toNat) (((nums xs).getD (0 + i.toNat) default).withCells (splice ((nums xs).getD (0 + i.toNat) default).cells 0 (PV.int .i64 (k.tmod (((nums ns).getD i.toNat default).cells.getD 0 default).asInt)).cells)))))]) : At T_ridx 0 (fun st => fin st rs_ridx = some r) ic_ridx 0 51 [(0, .pv (.sl 1 t (nums ns))), (1, .pv (.int .i64 k)), (8, .row 0 (((nums ns).length : Int).toNat) 0 (((nums ns).length : Int).toNat)), (9, .pv (.int .i64 i))] [.obj (.row false 3 1 (nums xs))] := At.w (.lit (.ans true (.req (.req (.req (.req (.req (.req (.req (.req (.lit (.nil)))))))))))) (And.intro h0 (And.intro h1 (And.intro h2 (And.intro h3 (And.intro h4 (And.intro h5 (And.intro h1 (And.intro h2 (And.intro h3 hn))))))))) (by kernel_rfl)
theorem ridx_h0_1 {r : PV} (ns : List Int) (t : Bool) (k : Int) (i : Int) (xs : List Int) (h0 : (decide (i ≥ 0)) = false) (h1 : ((nums xs).length == (↑(nums ns).length : Int).toNat) = true) (hr : (.tup [(.sl 1 false (List.drop 0 (List.take (↑(nums ns).length : Int).toNat (nums xs)))), (.int .i64 0)]) = r) : At T_ridx 0 (fun st => fin st rs_ridx = some r) ic_ridx 0 51 [(0, .pv (.sl 1 t (nums ns))), (1, .pv (.int .i64 k)), (8, .row 0 (((nums ns).length : Int).toNat) 0 (((nums ns).length : Int).toNat)), (9, .pv (.int .i64 i))] [.obj (.row false 3 1 (nums xs))] := At.w (.lit (.ans false (.req (.nil)))) (And.intro h0 (And.intro h1 hr)) (by kernel_rfl)
def ic_valid : IC := (.seq (.reg [⟨(some 3), (.box 3 (.t 1)), 0, none⟩, ⟨(some 4), (.mv (.c (.bool false))), 1, none⟩] none) (.seq (.seq (.reg [⟨(some 10), (.load true [(.int .i64), (.sl 1), (.sl 1)] (.t 3)), 0, none⟩, ⟨(some 11), (.call (.c (.fn 76)) [(.t 10)]), 0, none⟩, ⟨(some 12), (.un .not (.t 11)), 2, none⟩] none) (.cond (.t 12) (.seq (.reg [⟨(some 4), (.mv (.c (.bool false))), 0, none⟩] none) .ret) .skip)) (.seq (.seq (.reg [⟨(some 13), (.faddr 1 (.t 3)), 0, none⟩, ⟨(some 14), (.load false [(.sl 1)] (.t 13)), 0, none⟩, ⟨(some 15), (.call (.c (.fn 80)) [(.t 14), (.c (.int .i64 0))]), 0, none⟩] none) (.cond (.t 15) (.seq (.reg [⟨(some 4), (.mv (.c (.bool true))), 0, none⟩] none) .ret) .skip)) (.seq (.seq (.reg [⟨(some 16), (.faddr 0 (.t 3)), 0, none⟩, ⟨(some 17), (.load false [(.int .i64)] (.t 16)), 0, none⟩, ⟨(some 18), (.bin .num .lss (.t 17) (.c (.int .i64 0))), 0, none⟩, ⟨(some 19), (.mv (.t 18)), 0, none⟩, ⟨(some 20), (.faddr 0 (.t 3)), 0, (some (19, false))⟩, ⟨(some 21), (.load false [(.int .i64)] (.t 20)), 0, (some (19, false))⟩, ⟨(some 22), (.mv (.t 0)), 0, (some (19, false))⟩, ⟨(some 23), (.bin .num .geq (.t 21) (.t 22)), 0, (some (19, false))⟩, ⟨(some 24), (.pick (.t 19) (.c (.bool true)) (.t 23)), 0, none⟩] none) (.cond (.t 24) (.seq (.reg [⟨(some 4), (.mv (.c (.bool false))), 0, none⟩] none) .ret) .skip)) (.seq (.reg [⟨(some 25), (.faddr 0 (.t 3)), 0, none⟩, ⟨(some 26), (.load false [(.int .i64)] (.t 25)), 0, none⟩, ⟨(some 27), (.faddr 0 (.t 3)), 0, none⟩, ⟨(some 28), (.load false [(.int .i64)] (.t 27)), 0, none⟩, ⟨(some 5), (.mv (.t 26)), 0, none⟩, ⟨(some 6), (.mv (.t 28)), 0, none⟩] (some [[], [0], [], [2], [1, 0], [3, 4, 0, 1, 2]])) (.seq (.seq (.reg [⟨(some 29), (.faddr 1 (.t 3)), 0, none⟩, ⟨(some 30), (.load false [(.sl 1)] (.t 29)), 0, none⟩, ⟨(some 31), (.len 1 (.t 30)), 0, none⟩, ⟨(some 32), (.mv (.c (.int .i64 0))), 0, none⟩] none) (.block 0 (.loop [32, 31, 30, 3, 0, 6, 5] (.seq (.reg [⟨(some 33), (.bin .num .lss (.t 32) (.t 31)), 0, none⟩] none) (.seq (.cond (.t 33) .skip (.exit 0)) (.seq (.block 1 (.seq (.reg [⟨(some 34), (.mv (.t 32)), 0, none⟩, ⟨(some 35), (.iaddr 1 (.t 30) (.t 32)), 0, none⟩, ⟨(some 36), (.load false [(.int .i64)] (.t 35)), 0, none⟩, ⟨(some 7), (.mv (.t 34)), 0, none⟩, ⟨(some 8), (.mv (.t 36)), 0, none⟩] none) (.seq (.reg [⟨(some 37), (.faddr 2 (.t 3)), 0, none⟩, ⟨(some 38), (.load false [(.sl 1)] (.t 37)), 0, none⟩, ⟨(some 39), (.mv (.t 7)), 0, none⟩, ⟨(some 40), (.iaddr 1 (.t 38) (.t 39)), 0, none⟩, ⟨(some 41), (.load false [(.int .i64)] (.t 40)), 0, none⟩, ⟨(some 9), (.mv (.t 41)), 0, none⟩] none) (.block 2 (.seq (.reg [⟨(some 56), (.mv (.t 8)), 0, none⟩, ⟨(some 57), (.bin .num .eql (.t 56) (.c (.int .i64 1))), 0, none⟩, ⟨(some 55), (.mv (.t 57)), 0, none⟩] none) (.cond (.t 55) .skip (.seq (.reg [⟨(some 59), (.mv (.t 9)), 0, none⟩, ⟨(some 60), (.bin .num .geq (.t 59) (.c (.int .i64 0))), 0, none⟩, ⟨(some 58), (.mv (.t 60)), 0, none⟩] none) (.cond (.t 58) (.seq (.seq (.reg [⟨(some 61), (.mv (.t 9)), 0, none⟩, ⟨(some 62), (.mv (.t 0)), 0, none⟩, ⟨(some 63), (.bin .num .sub (.t 62) (.c (.int .i64 1))), 0, none⟩, ⟨(some 64), (.mv (.t 6)), 0, none⟩, ⟨(some 65), (.bin .num .sub (.t 63) (.t 64)), 0, none⟩, ⟨(some 66), (.mv (.t 8)), 0, none⟩, ⟨(some 67), (.bin .num .sub (.t 66) (.c (.int .i64 1))), 0, none⟩, ⟨(some 68), (.bin .num .quo (.t 65) (.t 67)), 0, none⟩, ⟨(some 69), (.bin .num .gtr (.t 61) (.t 68)), 0, none⟩] none) (.cond (.t 69) (.seq (.reg [⟨(some 4), (.mv (.c (.bool false))), 0, none⟩] none) .ret) .skip)) (.reg [⟨(some 70), (.mv (.t 6)), 0, none⟩, ⟨(some 71), (.mv (.t 8)), 0, none⟩, ⟨(some 72), (.bin .num .sub (.t 71) (.c (.int .i64 1))), 0, none⟩, ⟨(some 73), (.mv (.t 9)), 0, none⟩, ⟨(some 74), (.bin .num .mul (.t 72) (.t 73)), 0, none⟩, ⟨(some 75), (.bin .num .add (.t 70) (.t 74)), 0, none⟩, ⟨(some 6), (.mv (.t 75)), 0, none⟩] none)) (.seq (.seq (.reg [⟨(some 42), (.mv (.t 9)), 0, none⟩, ⟨(some 43), (.mv (.t 5)), 0, none⟩, ⟨(some 44), (.mv (.t 8)), 0, none⟩, ⟨(some 45), (.bin .num .sub (.t 44) (.c (.int .i64 1))), 0, none⟩, ⟨(some 46), (.bin .num .quo (.t 43) (.t 45)), 0, none⟩, ⟨(some 47), (.un .neg (.t 46)), 0, none⟩, ⟨(some 48), (.bin .num .lss (.t 42) (.t 47)), 0, none⟩] none) (.cond (.t 48) (.seq (.reg [⟨(some 4), (.mv (.c (.bool false))), 0, none⟩] none) .ret) .skip)) (.reg [⟨(some 49), (.mv (.t 5)), 0, none⟩, ⟨(some 50), (.mv (.t 8)), 0, none⟩, ⟨(some 51), (.bin .num .sub (.t 50) (.c (.int .i64 1))), 0, none⟩, ⟨(some 52), (.mv (.t 9)), 0, none⟩, ⟨(some 53), (.bin .num .mul (.t 51) (.t 52)), 0, none⟩, ⟨(some 54), (.bin .num .add (.t 49) (.t 53)), 0, none⟩, ⟨(some 5), (.mv (.t 54)), 0, none⟩] none)))))))))) (.reg [⟨(some 76), (.bin .num .add (.t 32) (.c (.int .i64 1))), 0, none⟩, ⟨(some 32), (.mv (.t 76)), 0, none⟩] none))))))) (.seq (.reg [⟨(some 4), (.mv (.c (.bool true))), 0, none⟩] none) .ret)))))))
def rs_valid : List IRes := [(.tmp 4)]
abbrev nt_valid : Nat := 77
def T_valid : Tab := tab [(76, .pure pre_v1 val_formed), (80, .pure pre_contains val_contains)]
theorem valid_s_0 {r : PV} (n : Int) (o : Int) (d s : List Int) (t u : Bool) (h0 : (pre_v1 [(.agg [(.int .i64 o), (.sl 1 t (nums d)), (.sl 1 u (nums s))])]) = true) (h1 : (!formB (PV.agg [PV.int .i64 o, PV.sl 1 t (nums d), PV.sl 1 u (nums s)]).vD (PV.agg [PV.int .i64 o, PV.sl 1 t (nums d), PV.sl 1 u (nums s)]).vS) = true) (hr : (.bool false) = r) : Gets T_valid 0 (fun st => fin st rs_valid = some r) ic_valid [] (st0 77 [.int .i64 n, (.agg [.int .i64 o, .sl 1 t (nums d), .sl 1 u (nums s)])]) := Gets.w (.req (.ans true (.nil))) (And.intro h0 (And.intro h1 hr)) (by kernel_rfl)
theorem valid_s_1 {r : PV} (n : Int) (o : Int) (d s : List Int) (t u : Bool) (h0 : (pre_v1 [(.agg [(.int .i64 o), (.sl 1 t (nums d)), (.sl 1 u (nums s))])]) = true) (h1 : (!formB (PV.agg [PV.int .i64 o, PV.sl 1 t (nums d), PV.sl 1 u (nums s)]).vD (PV.agg [PV.int .i64 o, PV.sl 1 t (nums d), PV.sl 1 u (nums s)]).vS) = false) (h2 : (pre_contains [(.sl 1 t (nums d)), (.int .i64 0)]) = true) (h3 : ((nums d).any fun x => x.asInt == 0) = true) (hr : (.bool true) = r) : Gets T_valid 0 (fun st => fin st rs_valid = some r) ic_valid [] (st0 77 [.int .i64 n, (.agg [.int .i64 o, .sl 1 t (nums d), .sl 1 u (nums s)])]) := Gets.w (.req (.ans false (.req (.ans true (.nil))))) (And.intro h0 (And.intro h1 (And.intro h2 (And.intro h3 hr)))) (by kernel_rfl)
theorem valid_s_2 {r : PV} (n : Int) (o : Int) (d s : List Int) (t u : Bool) (h0 : (pre_v1 [(.agg [(.int .i64 o), (.sl 1 t (nums d)), (.sl 1 u (nums s))])]) = true) (h1 : (!formB (PV.agg [PV.int .i64 o, PV.sl 1 t (nums d), PV.sl 1 u (nums s)]).vD (PV.agg [PV.int .i64 o, PV.sl 1 t (nums d), PV.sl 1 u (nums s)]).vS) = false) (h2 : (pre_contains [(.sl 1 t (nums d)), (.int .i64 0)]) = true) (h3 : ((nums d).any fun x => x.asInt == 0) = false) (h4 : (decide (o < 0)) = true) (hr : (.bool false) = r) : Gets T_valid 0 (fun st => fin st rs_valid = some r) ic_valid [] (st0 77 [.int .i64 n, (.agg [.int .i64 o, .sl 1 t (nums d), .sl 1 u (nums s)])]) := Gets.w (.req (.ans false (.req (.ans false (.lit (.ans true (.lit (.lit (.lit (.lit (.lit (.nil)))))))))))) (And.intro h0 (And.intro h1 (And.intro h2 (And.intro h3 (And.intro h4 hr))))) (by kernel_rfl)
theorem valid_s_3 {r : PV} (n : Int) (o : Int) (d s : List Int) (t u : Bool) (h0 : (pre_v1 [(.agg [(.int .i64 o), (.sl 1 t (nums d)), (.sl 1 u (nums s))])]) = true) (h1 : (!formB (PV.agg [PV.int .i64 o, PV.sl 1 t (nums d), PV.sl 1 u (nums s)]).vD (PV.agg [PV.int .i64 o, PV.sl 1 t (nums d), PV.sl 1 u (nums s)]).vS) = false) (h2 : (pre_contains [(.sl 1 t (nums d)), (.int .i64 0)]) = true) (h3 : ((nums d).any fun x => x.asInt == 0) = false) (h4 : (decide (o < 0)) = false) (h5 : (decide (o ≥ n)) = true) (hr : (.bool false) = r) : Gets T_valid 0 (fun st => fin st rs_valid = some r) ic_valid [] (st0 77 [.int .i64 n, (.agg [.int .i64 o, .sl 1 t (nums d), .sl 1 u (nums s)])]) := Gets.w (.req (.ans false (.req (.ans false (.lit (.ans false (.lit (.lit (.lit (.lit (.lit (.ans true (.nil))))))))))))) (And.intro h0 (And.intro h1 (And.intro h2 (And.intro h3 (And.intro h4 (And.intro h5 hr)))))) (by kernel_rfl)
theorem valid_s_4 {r : PV} (n : Int) (o : Int) (d s : List Int) (t u : Bool) (h0 : (pre_v1 [(.agg [(.int .i64 o), (.sl 1 t (nums d)), (.sl 1 u (nums s))])]) = true) (h1 : (!formB (PV.agg [PV.int .i64 o, PV.sl 1 t (nums d), PV.sl 1 u (nums s)]).vD (PV.agg [PV.int .i64 o, PV.sl 1 t (nums d), PV.sl 1 u (nums s)]).vS) = false) (h2 : (pre_contains [(.sl 1 t (nums d)), (.int .i64 0)]) = true) (h3 : ((nums d).any fun x => x.asInt == 0) = false) (h4 : (decide (o < 0)) = false) (h5 : (decide (o ≥ n)) = false) (hn : At T_valid 0 (fun st => fin st rs_valid = some r) ic_valid 0 77 [(0, (.pv (.int .i64 n))), (3, (.ptr 0 0)), (5, (.pv (.int .i64 o))), (6, (.pv (.int .i64 o))), (30, (.pv (.sl 1 t (nums d)))), (31, (.pv (.int .i64 (↑(nums d).length : Int)))), (32, (.pv (.int .i64 0)))] [(.obj (.box [(.pv (.int .i64 o)), (.pv (.sl 1 t (nums d))), (.pv (.sl 1 u (nums s)))]))]) : Gets T_valid 0 (fun st => fin st rs_valid = some r) ic_valid [] (st0 77 [.int .i64 n, (.agg [.int .i64 o, .sl 1 t (nums d), .sl 1 u (nums s)])]) := Gets.w (.req (.ans false (.req (.ans false (.lit (.ans false (.lit (.lit (.lit (.lit (.lit (.ans false (.nil))))))))))))) (And.intro h0 (And.intro h1 (And.intro h2 (And.intro h3 (And.intro h4 (And.intro h5 hn)))))) (by kernel_rfl)
theorem valid_h0_0 {r : PV} (n : Int) (o : Int) (d s : List Int) (t u : Bool) (i lo hi : Int) (h0 : (decide (i < (↑(nums d).length : Int))) = true) (h1 : (decide (0 ≤ i) && decide (i.toNat < (nums d).length) && 1 == 1) = true) (h2 : (decide (0 + [Sh.int .i64].length ≤ ((nums d).getD i.toNat default).cells.length) && shFit ((nums d).getD i.toNat default).cells 0 [Sh.int .i64]) = true) (h3 : (decide (0 ≤ i) && decide (i.toNat < (nums s).length) && 1 == 1) = true) (h4 : (decide (0 + [Sh.int .i64].length ≤ ((nums s).getD i.toNat default).cells.length) && shFit ((nums s).getD i.toNat default).cells 0 [Sh.int .i64]) = true) (h5 : ((((nums d).getD i.toNat default).cells.getD 0 default).asInt == 1) = true) (hn : At T_valid 0 (fun st => fin st rs_valid = some r) ic_valid 0 77 [(0, (.pv (.int .i64 n))), (3, (.ptr 0 0)), (5, (.pv (.int .i64 lo))), (6, (.pv (.int .i64 hi))), (30, (.pv (.sl 1 t (nums d)))), (31, (.pv (.int .i64 (↑(nums d).length : Int)))), (32, (.pv (.int .i64 (IntKind.i64.wrap (i + 1)))))] [(.obj (.box [(.pv (.int .i64 o)), (.pv (.sl 1 t (nums d))), (.pv (.sl 1 u (nums s)))]))]) : At T_valid 0 (fun st => fin st rs_valid = some r) ic_valid 0 77 [(0, .pv (.int .i64 n)), (3, .ptr 0 0), (5, .pv (.int .i64 lo)), (6, .pv (.int .i64 hi)), (30, .pv (.sl 1 t (nums d))), (31, .pv (.int .i64 (nums d).length)), (32, .pv (.int .i64 i))] [.obj (.box [.pv (.int .i64 o), .pv (.sl 1 t (nums d)), .pv (.sl 1 u (nums s))])] := At.w (.lit (.ans true (.req (.req (.req (.req (.lit (.ans true (.lit (.nil)))))))))) (And.intro h0 (And.intro h1 (And.intro h2 (And.intro h3 (And.intro h4 (And.intro h5 hn)))))) (by kernel_rfl)
theorem valid_h0_1 {r : PV} (n : Int) (o : Int) (d s : List Int) (t u : Bool) (i lo hi : Int) (h0 : (decide (i < (↑(nums d).length : Int))) = true) (h1 : (decide (0 ≤ i) && decide (i.toNat < (nums d).length) && 1 == 1) = true) (h2 : (decide (0 + [Sh.int .i64].length ≤ ((nums d).getD i.toNat default).cells.length) && shFit ((nums d).getD i.toNat default).cells 0 [Sh.int .i64]) = true) (h3 : (decide (0 ≤ i) && decide (i.toNat < (nums s).length) && 1 == 1) = true) (h4 : (decide (0 + [Sh.int .i64].length ≤ ((nums s).getD i.toNat default).cells.length) && shFit ((nums s).getD i.toNat default).cells 0 [Sh.int .i64]) = true) (h5 : ((((nums d).getD i.toNat default).cells.getD 0 default).asInt == 1) = false) (h6 : (decide ((((nums s).getD i.toNat default).cells.getD 0 default).asInt ≥ 0)) = true) (h7 : (IntKind.i64.wrap ((((nums d).getD i.toNat default).cells.getD 0 default).asInt - 1) != 0) = true) (h8 : (decide ((((nums s).getD i.toNat default).cells.getD 0 default).asInt > IntKind.i64.wrap ((IntKind.i64.wrap (IntKind.i64.wrap (n - 1) - hi)).tdiv (IntKind.i64.wrap ((((nums d).getD i.toNat default).cells.getD 0 default).asInt - 1))))) = true) (hr : (.bool false) = r) : At T_valid 0 (fun st => fin st rs_valid = some r) ic_valid 0 77 [(0, .pv (.int .i64 n)), (3, .ptr 0 0), (5, .pv (.int .i64 lo)), (6, .pv (.int .i64 hi)), (30, .pv (.sl 1 t (nums d))), (31, .pv (.int .i64 (nums d).length)), (32, .pv (.int .i64 i))] [.obj (.box [.pv (.int .i64 o), .pv (.sl 1 t (nums d)), .pv (.sl 1 u (nums s))])] := At.w (.lit (.ans true (.req (.req (.req (.req (.lit (.ans false (.lit (.ans true (.lit (.lit (.lit (.req (.lit (.ans true (.nil))))))))))))))))) (And.intro h0 (And.intro h1 (And.intro h2 (And.intro h3 (And.intro h4 (And.intro h5 (And.intro h6 (And.intro h7 (And.intro h8 hr))))))))) (by kernel_rfl)
theorem valid_h0_2 {r : PV} (n : Int) (o : Int) (d s : List Int) (t u : Bool) (i lo hi : Int) (h0 : (decide (i < (↑(nums d).length : Int))) = true) (h1 : (decide (0 ≤ i) && decide (i.toNat < (nums d).length) && 1 == 1) = true) (h2 : (decide (0 + [Sh.int .i64].length ≤ ((nums d).getD i.toNat default).cells.length) && shFit ((nums d).getD i.toNat default).cells 0 [Sh.int .i64]) = true) (h3 : (decide (0 ≤ i) && decide (i.toNat < (nums s).length) && 1 == 1) = true) (h4 : (decide (0 + [Sh.int .i64].length ≤ ((nums s).getD i.toNat default).cells.length) && shFit ((nums s).getD i.toNat default).cells 0 [Sh.int .i64]) = true) (h5 : ((((nums d).getD i.toNat default).cells.getD 0 default).asInt == 1) = false) (h6 : (decide ((((nums s).getD i.toNat default).cells.getD 0 default).asInt ≥ 0)) = true) (h7 : (IntKind.i64.wrap ((((nums d).getD i.toNat default).cells.getD 0 default).asInt - 1) != 0) = true) (h8 : (decide ((((nums s).getD i.toNat default).cells.getD 0 default).asInt > IntKind.i64.wrap ((IntKind.i64.wrap (IntKind.i64.wrap (n - 1) - hi)).tdiv (IntKind.i64.wrap ((((nums d).getD i.toNat default).cells.getD 0 default).asInt - 1))))) = false) (hn : At T_valid 0 (fun st => fin st rs_valid = some r) ic_valid 0 77 [(0, (.pv (.int .i64 n))), (3, (.ptr 0 0)), (5, (.pv (.int .i64 lo))), (6, (.pv (.int .i64 (IntKind.i64.wrap (hi + IntKind.i64.wrap (IntKind.i64.wrap ((((nums d).getD i.toNat default).cells.getD 0 default).asInt - 1) * (((nums s).getD i.toNat default).cells.getD 0 default).asInt)))))), (30, (.pv (.sl 1 t (nums d)))), (31, (.pv (.int .i64 (↑(nums d).length : Int)))), (32, (.pv (.int .i64 (IntKind.i64.wrap (i + 1)))))] [(.obj (.box [(.pv (.int .i64 o)), (.pv (.sl 1 t (nums d))), (.pv (.sl 1 u (nums s)))]))]) : At T_valid 0 (fun st => fin st rs_valid = some r) ic_valid 0 77 [(0, .pv (.int .i64 n)), (3, .ptr 0 0), (5, .pv (.int .i64 lo)), (6, .pv (.int .i64 hi)), (30, .pv (.sl 1 t (nums d))), (31, .pv (.int .i64 (nums d).length)), (32, .pv (.int .i64 i))] [.obj (.box [.pv (.int .i64 o), .pv (.sl 1 t (nums d)), .pv (.sl 1 u (nums s))])] := At.w (.lit (.ans true (.req (.req (.req (.req (.lit (.ans false (.lit (.ans true (.lit (.lit (.lit (.req (.lit (.ans false (.lit (.lit (.lit (.lit (.nil))))))))))))))))))))) (And.intro h0 (And.intro h1 (And.intro h2 (And.intro h3 (And.intro h4 (And.intro h5 (And.intro h6 (And.intro h7 (And.intro h8 hn))))))))) (by kernel_rfl)
theorem valid_h0_3 {r : PV} (n : Int) (o : Int) (d s : List Int) (t u : Bool) (i lo hi : Int) (h0 : (decide (i < (↑(nums d).length : Int))) = true) (h1 : (decide (0 ≤ i) && decide (i.toNat < (nums d).length) && 1 == 1) = true) (h2 : (decide (0 + [Sh.int .i64].length ≤ ((nums d).getD i.toNat default).cells.length) && shFit ((nums d).getD i.toNat default).cells 0 [Sh.int .i64]) = true) (h3 : (decide (0 ≤ i) && decide (i.toNat < (nums s).length) && 1 == 1) = true) (h4 : (decide (0 + [Sh.int .i64].length ≤ ((nums s).getD i.toNat default).cells.length) && shFit ((nums s).getD i.toNat default).cells 0 [Sh.int .i64]) = true) (h5 : ((((nums d).getD i.toNat default).cells.getD 0 default).asInt == 1) = false) (h6 : (decide ((((nums s).getD i.toNat default).cells.getD 0 default).asInt ≥ 0)) = false) (h7 : (IntKind.i64.wrap ((((nums d).getD i.toNat default).cells.getD 0 default).asInt - 1) != 0) = true) (h8 : (decide ((((nums s).getD i.toNat default).cells.getD 0 default).asInt < IntKind.i64.wrap (-IntKind.i64.wrap (lo.tdiv (IntKind.i64.wrap ((((nums d).getD i.toNat default).cells.getD 0 default).asInt - 1)))))) = true) (hr : (.bool false) = r) : At T_valid 0 (fun st => fin st rs_valid = some r) ic_valid 0 77 [(0, .pv (.int .i64 n)), (3, .ptr 0 0), (5, .pv (.int .i64 lo)), (6, .pv (.int .i64 hi)), (30, .pv (.sl 1 t (nums d))), (31, .pv (.int .i64 (nums d).length)), (32, .pv (.int .i64 i))] [.obj (.box [.pv (.int .i64 o), .pv (.sl 1 t (nums d)), .pv (.sl 1 u (nums s))])] := At.w (.lit (.ans true (.req (.req (.req (.req (.lit (.ans false (.lit (.ans false (.lit (.req (.lit (.ans true (.nil))))))))))))))) (And.intro h0 (And.intro h1 (And.intro h2 (And.intro h3 (And.intro h4 (And.intro h5 (And.intro h6 (And.intro h7 (And.intro h8 hr))))))))) (by kernel_rfl)
theorem valid_h0_4 {r : PV} (n : Int) (o : Int) (d s : List Int) (t u : Bool) (i lo hi : Int) (h0 : (decide (i < (↑(nums d).length : Int))) = true) (h1 : (decide (0 ≤ i) && decide (i.toNat < (nums d).length) && 1 == 1) = true) (h2 : (decide (0 + [Sh.int .i64].length ≤ ((nums d).getD i.toNat default).cells.length) && shFit ((nums d).getD i.toNat default).cells 0 [Sh.int .i64]) = true) (h3 : (decide (0 ≤ i) && decide (i.toNat < (nums s).length) && 1 == 1) = true) (h4 : (decide (0 + [Sh.int .i64].length ≤ ((nums s).getD i.toNat default).cells.length) && shFit ((nums s).getD i.toNat default).cells 0 [Sh.int .i64]) = true) (h5 : ((((nums d).getD i.toNat default).cells.getD 0 default).asInt == 1) = false) (h6 : (decide ((((nums s).getD i.toNat default).cells.getD 0 default).asInt ≥ 0)) = false) (h7 : (IntKind.i64.wrap ((((nums d).getD i.toNat default).cells.getD 0 default).asInt - 1) != 0) = true) (h8 : (decide ((((nums s).getD i.toNat default).cells.getD 0 default).asInt < IntKind.i64.wrap (-IntKind.i64.wrap (lo.tdiv (IntKind.i64.wrap ((((nums d).getD i.toNat default).cells.getD 0 default).asInt - 1)))))) = false) (hn : At T_valid 0 (fun st => fin st rs_valid = some r) ic_valid 0 77 [(0, (.pv (.int .i64 n))), (3, (.ptr 0 0)), (5, (.pv (.int .i64 (IntKind.i64.wrap (lo + IntKind.i64.wrap (IntKind.i64.wrap ((((nums d).getD i.toNat default).cells.getD 0 default).asInt - 1) * (((nums s).getD i.toNat default).cells.getD 0 default).asInt)))))), (6, (.pv (.int .i64 hi))), (30, (.pv (.sl 1 t (nums d)))), (31, (.pv (.int .i64 (↑(nums d).length : Int)))), (32, (.pv (.int .i64 (IntKind.i64.wrap (i + 1)))))] [(.obj (.box [(.pv (.int .i64 o)), (.pv (.sl 1 t (nums d))), (.pv (.sl 1 u (nums s)))]))]) : At T_valid 0 (fun st => fin st rs_valid = some r) ic_valid 0 77 [(0, .pv (.int .i64 n)), (3, .ptr 0 0), (5, .pv (.int .i64 lo)), (6, .pv (.int .i64 hi)), (30, .pv (.sl 1 t (nums d))), (31, .pv (.int .i64 (nums d).length)), (32, .pv (.int .i64 i))] [.obj (.box [.pv (.int .i64 o), .pv (.sl 1 t (nums d)), .pv (.sl 1 u (nums s))])] := At.w (.lit (.ans true (.req (.req (.req (.req (.lit (.ans false (.lit (.ans false (.lit (.req (.lit (.ans false (.lit (.lit (.lit (.lit (.nil))))))))))))))))))) (And.intro h0 (And.intro h1 (And.intro h2 (And.intro h3 (And.intro h4 (And.intro h5 (And.intro h6 (And.intro h7 (And.intro h8 hn))))))))) (by kernel_rfl)
theorem valid_h0_5 {r : PV} (n : Int) (o : Int) (d s : List Int) (t u : Bool) (i lo hi : Int) (h0 : (decide (i < (↑(nums d).length : Int))) = false) (hr : (.bool true) = r) : At T_valid 0 (fun st => fin st rs_valid = some r) ic_valid 0 77 [(0, .pv (.int .i64 n)), (3, .ptr 0 0), (5, .pv (.int .i64 lo)), (6, .pv (.int .i64 hi)), (30, .pv (.sl 1 t (nums d))), (31, .pv (.int .i64 (nums d).length)), (32, .pv (.int .i64 i))] [.obj (.box [.pv (.int .i64 o), .pv (.sl 1 t (nums d)), .pv (.sl 1 u (nums s))])] := At.w (.lit (.ans false (.nil))) (And.intro h0 hr) (by kernel_rfl)
def ic_rvalid : IC := (.seq (.reg [⟨(some 3), (.box 3 (.t 1)), 0, none⟩, ⟨(some 4), (.mv (.c (.bool false))), 1, none⟩] none) (.seq (.seq (.reg [⟨(some 11), (.load true [(.int .i64), (.sl 1), (.sl 1)] (.t 3)), 0, none⟩, ⟨(some 12), (.call (.c (.fn 78)) [(.t 11)]), 0, none⟩, ⟨(some 13), (.bin .num .neq (.t 12) (.c (.int .i64 0))), 2, none⟩] none) (.cond (.t 13) (.seq (.reg [⟨(some 4), (.mv (.c (.bool false))), 0, none⟩] none) .ret) .skip)) (.seq (.reg [⟨(some 15), (.faddr 1 (.t 3)), 0, none⟩, ⟨(some 16), (.load false [(.sl 1)] (.t 15)), 0, none⟩, ⟨(some 17), (.call (.c (.fn 35)) [(.t 16)]), 0, none⟩, ⟨(some 14), (.mv (.t 17)), 2, none⟩, ⟨(some 18), (.extract (.t 14) 0), 2, none⟩, ⟨(some 19), (.extract (.t 14) 1), 2, none⟩, ⟨(some 5), (.mv (.t 18)), 2, none⟩, ⟨(some 6), (.mv (.t 19)), 2, none⟩] none) (.seq (.seq (.reg [⟨(some 20), (.mv (.t 5)), 0, none⟩, ⟨(some 21), (.bin .num .eql (.t 20) (.c (.int .i64 0))), 0, none⟩] none) (.cond (.t 21) (.seq (.reg [⟨(some 4), (.mv (.c (.bool true))), 0, none⟩] none) .ret) .skip)) (.seq (.seq (.reg [⟨(some 22), (.faddr 0 (.t 3)), 0, none⟩, ⟨(some 23), (.load false [(.int .i64)] (.t 22)), 0, none⟩, ⟨(some 24), (.bin .num .lss (.t 23) (.c (.int .i64 0))), 0, none⟩, ⟨(some 25), (.mv (.t 24)), 0, none⟩, ⟨(some 26), (.faddr 0 (.t 3)), 0, (some (25, false))⟩, ⟨(some 27), (.load false [(.int .i64)] (.t 26)), 0, (some (25, false))⟩, ⟨(some 28), (.mv (.t 0)), 0, (some (25, false))⟩, ⟨(some 29), (.bin .num .geq (.t 27) (.t 28)), 0, (some (25, false))⟩, ⟨(some 30), (.pick (.t 25) (.c (.bool true)) (.t 29)), 0, none⟩] none) (.cond (.t 30) (.seq (.reg [⟨(some 4), (.mv (.c (.bool false))), 0, none⟩] none) .ret) .skip)) (.seq (.reg [⟨(some 31), (.faddr 0 (.t 3)), 0, none⟩, ⟨(some 32), (.load false [(.int .i64)] (.t 31)), 0, none⟩, ⟨(some 33), (.faddr 0 (.t 3)), 0, none⟩, ⟨(some 34), (.load false [(.int .i64)] (.t 33)), 0, none⟩, ⟨(some 7), (.mv (.t 32)), 0, none⟩, ⟨(some 8), (.mv (.t 34)), 0, none⟩] (some [[], [0], [], [2], [1, 0], [3, 4, 0, 1, 2]])) (.seq (.seq (.reg [⟨(some 9), (.mv (.c (.int .i64 0))), 0, none⟩] none) (.block 0 (.loop [9, 3, 0, 8, 7] (.seq (.seq (.reg [⟨(some 35), (.mv (.t 9)), 0, none⟩, ⟨(some 36), (.faddr 1 (.t 3)), 0, none⟩, ⟨(some 37), (.load false [(.sl 1)] (.t 36)), 0, none⟩, ⟨(some 38), (.len 1 (.t 37)), 0, none⟩, ⟨(some 39), (.bin .num .lss (.t 35) (.t 38)), 0, none⟩] none) (.cond (.t 39) .skip (.exit 0))) (.seq (.block 1 (.seq (.reg [⟨(some 42), (.faddr 1 (.t 3)), 0, none⟩, ⟨(some 43), (.load false [(.sl 1)] (.t 42)), 0, none⟩, ⟨(some 44), (.mv (.t 9)), 0, none⟩, ⟨(some 45), (.iaddr 1 (.t 43) (.t 44)), 0, none⟩, ⟨(some 46), (.load false [(.int .i64)] (.t 45)), 0, none⟩, ⟨(some 47), (.bin .num .sub (.t 46) (.c (.int .i64 1))), 0, none⟩, ⟨(some 10), (.mv (.t 47)), 0, none⟩] none) (.seq (.seq (.reg [⟨(some 48), (.mv (.t 10)), 0, none⟩, ⟨(some 49), (.bin .num .eql (.t 48) (.c (.int .i64 0))), 0, none⟩] none) (.cond (.t 49) (.exit 1) .skip)) (.seq (.seq (.reg [⟨(some 50), (.faddr 2 (.t 3)), 0, none⟩, ⟨(some 51), (.load false [(.sl 1)] (.t 50)), 0, none⟩, ⟨(some 52), (.mv (.t 9)), 0, none⟩, ⟨(some 53), (.iaddr 1 (.t 51) (.t 52)), 0, none⟩, ⟨(some 54), (.load false [(.int .i64)] (.t 53)), 0, none⟩, ⟨(some 55), (.mv (.t 0)), 0, none⟩, ⟨(some 56), (.bin .num .sub (.t 55) (.c (.int .i64 1))), 0, none⟩, ⟨(some 57), (.mv (.t 8)), 0, none⟩, ⟨(some 58), (.bin .num .sub (.t 56) (.t 57)), 0, none⟩, ⟨(some 59), (.mv (.t 10)), 0, none⟩, ⟨(some 60), (.bin .num .quo (.t 58) (.t 59)), 0, none⟩, ⟨(some 61), (.bin .num .gtr (.t 54) (.t 60)), 0, none⟩, ⟨(some 62), (.mv (.t 61)), 0, none⟩, ⟨(some 63), (.faddr 2 (.t 3)), 0, (some (62, false))⟩, ⟨(some 64), (.load false [(.sl 1)] (.t 63)), 0, (some (62, false))⟩, ⟨(some 65), (.mv (.t 9)), 0, (some (62, false))⟩, ⟨(some 66), (.iaddr 1 (.t 64) (.t 65)), 0, (some (62, false))⟩, ⟨(some 67), (.load false [(.int .i64)] (.t 66)), 0, (some (62, false))⟩, ⟨(some 68), (.mv (.t 7)), 0, (some (62, false))⟩, ⟨(some 69), (.mv (.t 10)), 0, (some (62, false))⟩, ⟨(some 70), (.bin .num .quo (.t 68) (.t 69)), 0, (some (62, false))⟩, ⟨(some 71), (.un .neg (.t 70)), 0, (some (62, false))⟩, ⟨(some 72), (.bin .num .lss (.t 67) (.t 71)), 0, (some (62, false))⟩, ⟨(some 73), (.pick (.t 62) (.c (.bool true)) (.t 72)), 0, none⟩] (some [[], [0], [], [1, 2, 0], [3, 1, 2, 0], [], [5], [], [6, 7, 5], [], [8, 9, 6, 7, 5], [4, 10, 3, 1, 2, 0, 8, 9, 6, 7, 5], [11, 4, 10, 3, 1, 2, 0, 8, 9, 6, 7, 5], [12, 11, 4, 10, 3, 1, 2, 0, 8, 9, 6, 7, 5], [13, 12, 11, 4, 10, 3, 1, 2, 0, 8, 9, 6, 7, 5], [12, 11, 4, 10, 3, 1, 2, 0, 8, 9, 6, 7, 5], [14, 15, 12, 13, 11, 4, 10, 3, 1, 2, 0, 8, 9, 6, 7, 5], [16, 12, 14, 15, 13, 11, 4, 10, 3, 1, 2, 0, 8, 9, 6, 7, 5], [12, 11, 4, 10, 3, 1, 2, 0, 8, 9, 6, 7, 5], [12, 11, 4, 10, 3, 1, 2, 0, 8, 9, 6, 7, 5], [18, 19, 12, 11, 4, 10, 3, 1, 2, 0, 8, 9, 6, 7, 5], [20, 12, 18, 19, 11, 4, 10, 3, 1, 2, 0, 8, 9, 6, 7, 5], [17, 21, 12, 16, 14, 15, 13, 11, 4, 10, 3, 1, 2, 0, 8, 9, 6, 7, 5, 20, 18, 19], [12, 22, 11, 4, 10, 3, 1, 2, 0, 8, 9, 6, 7, 5, 17, 21, 16, 14, 15, 13, 20, 18, 19]])) (.cond (.t 73) (.seq (.reg [⟨(some 4), (.mv (.c (.bool false))), 0, none⟩] none) .ret) .skip)) (.seq (.reg [⟨(some 74), (.faddr 2 (.t 3)), 0, none⟩, ⟨(some 75), (.load false [(.sl 1)] (.t 74)), 0, none⟩, ⟨(some 76), (.mv (.t 9)), 0, none⟩, ⟨(some 77), (.iaddr 1 (.t 75) (.t 76)), 0, none⟩, ⟨(some 78), (.load false [(.int .i64)] (.t 77)), 0, none⟩, ⟨(some 79), (.bin .num .lss (.t 78) (.c (.int .i64 0))), 0, none⟩] none) (.cond (.t 79) (.reg [⟨(some 80), (.mv (.t 7)), 0, none⟩, ⟨(some 81), (.mv (.t 10)), 0, none⟩, ⟨(some 82), (.faddr 2 (.t 3)), 0, none⟩, ⟨(some 83), (.load false [(.sl 1)] (.t 82)), 0, none⟩, ⟨(some 84), (.mv (.t 9)), 0, none⟩, ⟨(some 85), (.iaddr 1 (.t 83) (.t 84)), 0, none⟩, ⟨(some 86), (.load false [(.int .i64)] (.t 85)), 0, none⟩, ⟨(some 87), (.bin .num .mul (.t 81) (.t 86)), 0, none⟩, ⟨(some 88), (.bin .num .add (.t 80) (.t 87)), 0, none⟩, ⟨(some 7), (.mv (.t 88)), 0, none⟩] none) (.reg [⟨(some 89), (.mv (.t 8)), 0, none⟩, ⟨(some 90), (.mv (.t 10)), 0, none⟩, ⟨(some 91), (.faddr 2 (.t 3)), 0, none⟩, ⟨(some 92), (.load false [(.sl 1)] (.t 91)), 0, none⟩, ⟨(some 93), (.mv (.t 9)), 0, none⟩, ⟨(some 94), (.iaddr 1 (.t 92) (.t 93)), 0, none⟩, ⟨(some 95), (.load false [(.int .i64)] (.t 94)), 0, none⟩, ⟨(some 96), (.bin .num .mul (.t 90) (.t 95)), 0, none⟩, ⟨(some 97), (.bin .num .add (.t 89) (.t 96)), 0, none⟩, ⟨(some 8), (.mv (.t 97)), 0, none⟩] none))))))) (.reg [⟨(some 40), (.mv (.t 9)), 0, none⟩, ⟨(some 41), (.bin .num .add (.t 40) (.c (.int .i64 1))), 0, none⟩, ⟨(some 9), (.mv (.t 41)), 0, none⟩] none)))))) (.seq (.reg [⟨(some 4), (.mv (.c (.bool true))), 0, none⟩] none) .ret))))))))
def rs_rvalid : List IRes := [(.tmp 4)]
abbrev nt_rvalid : Nat := 98
def T_rvalid : Tab := tab [(78, .pure pre_v1 val_form), (35, .pure pre_size val_size)]
theorem rvalid_s_0 {r : PV} (n : Int) (o : Int) (d s : List Int) (t u : Bool) (h0 : (pre_v1 [(.agg [(.int .i64 o), (.sl 1 t (nums d)), (.sl 1 u (nums s))])]) = true) (h1 : ((bif formB (PV.agg [PV.int .i64 o, PV.sl 1 t (nums d), PV.sl 1 u (nums s)]).vD (PV.agg [PV.int .i64 o, PV.sl 1 t (nums d), PV.sl 1 u (nums s)]).vS then (0 : Int) else 1) != 0) = true) (hr : (.bool false) = r) : Gets T_rvalid 0 (fun st => fin st rs_rvalid = some r) ic_rvalid [] (st0 98 [.int .i64 n, (.agg [.int .i64 o, .sl 1 t (nums d), .sl 1 u (nums s)])]) := Gets.w (.req (.lit (.ans true (.nil)))) (And.intro h0 (And.intro h1 hr)) (by kernel_rfl)
theorem rvalid_s_1 {r : PV} (n : Int) (o : Int) (d s : List Int) (t u : Bool) (h0 : (pre_v1 [(.agg [(.int .i64 o), (.sl 1 t (nums d)), (.sl 1 u (nums s))])]) = true) (h1 : ((bif formB (PV.agg [PV.int .i64 o, PV.sl 1 t (nums d), PV.sl 1 u (nums s)]).vD (PV.agg [PV.int .i64 o, PV.sl 1 t (nums d), PV.sl 1 u (nums s)]).vS then (0 : Int) else 1) != 0) = false) (h2 : (pre_size [(.sl 1 t (nums d))]) = true) (h3 : ((sizeB (List.map PV.asInt (nums d))).fst == 0) = true) (hr : (.bool true) = r) : Gets T_rvalid 0 (fun st => fin st rs_rvalid = some r) ic_rvalid [] (st0 98 [.int .i64 n, (.agg [.int .i64 o, .sl 1 t (nums d), .sl 1 u (nums s)])]) := Gets.w (.req (.lit (.ans false (.req (.lit (.ans true (.nil))))))) (And.intro h0 (And.intro h1 (And.intro h2 (And.intro h3 hr)))) (by kernel_rfl)
theorem rvalid_s_2 {r : PV} (n : Int) (o : Int) (d s : List Int) (t u : Bool) (h0 : (pre_v1 [(.agg [(.int .i64 o), (.sl 1 t (nums d)), (.sl 1 u (nums s))])]) = true) (h1 : ((bif formB (PV.agg [PV.int .i64 o, PV.sl 1 t (nums d), PV.sl 1 u (nums s)]).vD (PV.agg [PV.int .i64 o, PV.sl 1 t (nums d), PV.sl 1 u (nums s)]).vS then (0 : Int) else 1) != 0) = false) (h2 : (pre_size [(.sl 1 t (nums d))]) = true) (h3 : ((sizeB (List.map PV.asInt (nums d))).fst == 0) = false) (h4 : (decide (o < 0)) = true) (hr : (.bool false) = r) : Gets T_rvalid 0 (fun st => fin st rs_rvalid = some r) ic_rvalid [] (st0 98 [.int .i64 n, (.agg [.int .i64 o, .sl 1 t (nums d), .sl 1 u (nums s)])]) := Gets.w (.req (.lit (.ans false (.req (.lit (.ans false (.lit (.ans true (.lit (.lit (.lit (.lit (.lit (.nil)))))))))))))) (And.intro h0 (And.intro h1 (And.intro h2 (And.intro h3 (And.intro h4 hr))))) (by kernel_rfl)
theorem rvalid_s_3 {r : PV} (n : Int) (o : Int) (d s : List Int) (t u : Bool) (h0 : (pre_v1 [(.agg [(.int .i64 o), (.sl 1 t (nums d)), (.sl 1 u (nums s))])]) = true) (h1 : ((bif formB (PV.agg [PV.int .i64 o, PV.sl 1 t (nums d), PV.sl 1 u (nums s)]).vD (PV.agg [PV.int .i64 o, PV.sl 1 t (nums d), PV.sl 1 u (nums s)]).vS then (0 : Int) else 1) != 0) = false) (h2 : (pre_size [(.sl 1 t (nums d))]) = true) (h3 : ((sizeB (List.map PV.asInt (nums d))).fst == 0) = false) (h4 : (decide (o < 0)) = false) (h5 : (decide (o ≥ n)) = true) (hr : (.bool false) = r) : Gets T_rvalid 0 (fun st => fin st rs_rvalid = some r) ic_rvalid [] (st0 98 [.int .i64 n, (.agg [.int .i64 o, .sl 1 t (nums d), .sl 1 u (nums s)])]) := Gets.w (.req (.lit (.ans false (.req (.lit (.ans false (.lit (.ans false (.lit (.lit (.lit (.lit (.lit (.ans true (.nil))))))))))))))) (And.intro h0 (And.intro h1 (And.intro h2 (And.intro h3 (And.intro h4 (And.intro h5 hr)))))) (by kernel_rfl)
theorem rvalid_s_4 {r : PV} (n : Int) (o : Int) (d s : List Int) (t u : Bool) (h0 : (pre_v1 [(.agg [(.int .i64 o), (.sl 1 t (nums d)), (.sl 1 u (nums s))])]) = true) (h1 : ((bif formB (PV.agg [PV.int .i64 o, PV.sl 1 t (nums d), PV.sl 1 u (nums s)]).vD (PV.agg [PV.int .i64 o, PV.sl 1 t (nums d), PV.sl 1 u (nums s)]).vS then (0 : Int) else 1) != 0) = false) (h2 : (pre_size [(.sl 1 t (nums d))]) = true) (h3 : ((sizeB (List.map PV.asInt (nums d))).fst == 0) = false) (h4 : (decide (o < 0)) = false) (h5 : (decide (o ≥ n)) = false) (hn : At T_rvalid 0 (fun st => fin st rs_rvalid = some r) ic_rvalid 0 98 [(0, (.pv (.int .i64 n))), (3, (.ptr 0 0)), (7, (.pv (.int .i64 o))), (8, (.pv (.int .i64 o))), (9, (.pv (.int .i64 0)))] [(.obj (.box [(.pv (.int .i64 o)), (.pv (.sl 1 t (nums d))), (.pv (.sl 1 u (nums s)))]))]) : Gets T_rvalid 0 (fun st => fin st rs_rvalid = some r) ic_rvalid [] (st0 98 [.int .i64 n, (.agg [.int .i64 o, .sl 1 t (nums d), .sl 1 u (nums s)])]) := Gets.w (.req (.lit (.ans false (.req (.lit (.ans false (.lit (.ans false (.lit (.lit (.lit (.lit (.lit (.ans false (.nil))))))))))))))) (And.intro h0 (And.intro h1 (And.intro h2 (And.intro h3 (And.intro h4 (And.intro h5 hn)))))) (by kernel_rfl)
theorem rvalid_h0_0 {r : PV} (n : Int) (o : Int) (d s : List Int) (t u : Bool) (i lo hi : Int) (h0 : (decide (i < (↑(nums d).length : Int))) = true) (h1 : (decide (0 ≤ i) && decide (i.toNat < (nums d).length) && 1 == 1) = true) (h2 : (decide (0 + [Sh.int .i64].length ≤ ((nums d).getD i.toNat default).cells.length) && shFit ((nums d).getD i.toNat default).cells 0 [Sh.int .i64]) = true) (h3 : (IntKind.i64.wrap ((((nums d).getD i.toNat default).cells.getD 0 default).asInt - 1) == 0) = true) (hn : At T_rvalid 0 (fun st => fin st rs_rvalid = some r) ic_rvalid 0 98 [(0, (.pv (.int .i64 n))), (3, (.ptr 0 0)), (7, (.pv (.int .i64 lo))), (8, (.pv (.int .i64 hi))), (9, (.pv (.int .i64 (IntKind.i64.wrap (i + 1)))))] [(.obj (.box [(.pv (.int .i64 o)), (.pv (.sl 1 t (nums d))), (.pv (.sl 1 u (nums s)))]))]) : At T_rvalid 0 (fun st => fin st rs_rvalid = some r) ic_rvalid 0 98 [(0, .pv (.int .i64 n)), (3, .ptr 0 0), (7, .pv (.int .i64 lo)), (8, .pv (.int .i64 hi)), (9, .pv (.int .i64 i))] [.obj (.box [.pv (.int .i64 o), .pv (.sl 1 t (nums d)), .pv (.sl 1 u (nums s))])] := At.w (.lit (.ans true (.req (.req (.lit (.lit (.ans true (.lit (.nil))))))))) (And.intro h0 (And.intro h1 (And.intro h2 (And.intro h3 hn)))) (by kernel_rfl)
theorem rvalid_h0_1 {r : PV} (n : Int) (o : Int) (d s : List Int) (t u : Bool) (i lo hi : Int) (h0 : (decide (i < (↑(nums d).length : Int))) = true) (h1 : (decide (0 ≤ i) && decide (i.toNat < (nums d).length) && 1 == 1) = true) (h2 : (decide (0 + [Sh.int .i64].length ≤ ((nums d).getD i.toNat default).cells.length) && shFit ((nums d).getD i.toNat default).cells 0 [Sh.int .i64]) = true) (h3 : (IntKind.i64.wrap ((((nums d).getD i.toNat default).cells.getD 0 default).asInt - 1) == 0) = false) (h4 : (decide (0 ≤ i) && decide (i.toNat < (nums s).length) && 1 == 1) = true) (h5 : (decide (0 + [Sh.int .i64].length ≤ ((nums s).getD i.toNat default).cells.length) && shFit ((nums s).getD i.toNat default).cells 0 [Sh.int .i64]) = true) (h6 : (IntKind.i64.wrap ((((nums d).getD i.toNat default).cells.getD 0 default).asInt - 1) != 0) = true) (h7 : (decide ((((nums s).getD i.toNat default).cells.getD 0 default).asInt > IntKind.i64.wrap ((IntKind.i64.wrap (IntKind.i64.wrap (n - 1) - hi)).tdiv (IntKind.i64.wrap ((((nums d).getD i.toNat default).cells.getD 0 default).asInt - 1))))) = true) (hr : (.bool false) = r) : At T_rvalid 0 (fun st => fin st rs_rvalid = some r) ic_rvalid 0 98 [(0, .pv (.int .i64 n)), (3, .ptr 0 0), (7, .pv (.int .i64 lo)), (8, .pv (.int .i64 hi)), (9, .pv (.int .i64 i))] [.obj (.box [.pv (.int .i64 o), .pv (.sl 1 t (nums d)), .pv (.sl 1 u (nums s))])] := At.w (.lit (.ans true (.req (.req (.lit (.lit (.ans false (.req (.req (.lit (.lit (.req (.lit (.ans true (.lit (.lit (.lit (.lit (.lit (.lit (.lit (.lit (.lit (.lit (.lit (.nil)))))))))))))))))))))))))) (And.intro h0 (And.intro h1 (And.intro h2 (And.intro h3 (And.intro h4 (And.intro h5 (And.intro h6 (And.intro h7 hr)))))))) (by kernel_rfl)
theorem rvalid_h0_2 {r : PV} (n : Int) (o : Int) (d s : List Int) (t u : Bool) (i lo hi : Int) (h0 : (decide (i < (↑(nums d).length : Int))) = true) (h1 : (decide (0 ≤ i) && decide (i.toNat < (nums d).length) && 1 == 1) = true) (h2 : (decide (0 + [Sh.int .i64].length ≤ ((nums d).getD i.toNat default).cells.length) && shFit ((nums d).getD i.toNat default).cells 0 [Sh.int .i64]) = true) (h3 : (IntKind.i64.wrap ((((nums d).getD i.toNat default).cells.getD 0 default).asInt - 1) == 0) = false) (h4 : (decide (0 ≤ i) && decide (i.toNat < (nums s).length) && 1 == 1) = true) (h5 : (decide (0 + [Sh.int .i64].length ≤ ((nums s).getD i.toNat default).cells.length) && shFit ((nums s).getD i.toNat default).cells 0 [Sh.int .i64]) = true) (h6 : (IntKind.i64.wrap ((((nums d).getD i.toNat default).cells.getD 0 default).asInt - 1) != 0) = true) (h7 : (decide ((((nums s).getD i.toNat default).cells.getD 0 default).asInt > IntKind.i64.wrap ((IntKind.i64.wrap (IntKind.i64.wrap (n - 1) - hi)).tdiv (IntKind.i64.wrap ((((nums d).getD i.toNat default).cells.getD 0 default).asInt - 1))))) = false) (h8 : (decide ((((nums s).getD i.toNat default).cells.getD 0 default).asInt < IntKind.i64.wrap (-IntKind.i64.wrap (lo.tdiv (IntKind.i64.wrap ((((nums d).getD i.toNat default).cells.getD 0 default).asInt - 1)))))) = true) (hr : (.bool false) = r) : At T_rvalid 0 (fun st => fin st rs_rvalid = some r) ic_rvalid 0 98 [(0, .pv (.int .i64 n)), (3, .ptr 0 0), (7, .pv (.int .i64 lo)), (8, .pv (.int .i64 hi)), (9, .pv (.int .i64 i))] [.obj (.box [.pv (.int .i64 o), .pv (.sl 1 t (nums d)), .pv (.sl 1 u (nums s))])] := At.w (.lit (.ans true (.req (.req (.lit (.lit (.ans false (.req (.req (.lit (.lit (.req (.lit (.ans false (.lit (.lit (.lit (.req (.lit (.req (.lit (.lit (.lit (.req (.lit (.lit (.lit (.lit (.ans true (.nil)))))))))))))))))))))))))))))) (And.intro h0 (And.intro h1 (And.intro h2 (And.intro h3 (And.intro h4 (And.intro h5 (And.intro h6 (And.intro h7 (And.intro h4 (And.intro h5 (And.intro h6 (And.intro h8 hr)))))))))))) (by kernel_rfl)
theorem rvalid_h0_3 {r : PV} (n : Int) (o : Int) (d s : List Int) (t u : Bool) (i lo hi : Int) (h0 : (decide (i < (↑(nums d).length : Int))) = true) (h1 : (decide (0 ≤ i) && decide (i.toNat < (nums d).length) && 1 == 1) = true) (h2 : (decide (0 + [Sh.int .i64].length ≤ ((nums d).getD i.toNat default).cells.length) && shFit ((nums d).getD i.toNat default).cells 0 [Sh.int .i64]) = true) (h3 : (IntKind.i64.wrap ((((nums d).getD i.toNat default).cells.getD 0 default).asInt - 1) == 0) = false) (h4 : (decide (0 ≤ i) && decide (i.toNat < (nums s).length) && 1 == 1) = true) (h5 : (decide (0 + [Sh.int .i64].length ≤ ((nums s).getD i.toNat default).cells.length) && shFit ((nums s).getD i.toNat default).cells 0 [Sh.int .i64]) = true) (h6 : (IntKind.i64.wrap ((((nums d).getD i.toNat default).cells.getD 0 default).asInt - 1) != 0) = true) (h7 : (decide ((((nums s).getD i.toNat default).cells.getD 0 default).asInt > IntKind.i64.wrap ((IntKind.i64.wrap (IntKind.i64.wrap (n - 1) - hi)).tdiv (IntKind.i64.wrap ((((nums d).getD i.toNat default).cells.getD 0 default).asInt - 1))))) = false) (h8 : (decide ((((nums s).getD i.toNat default).cells.getD 0 default).asInt < IntKind.i64.wrap (-IntKind.i64.wrap (lo.tdiv (IntKind.i64.wrap ((((nums d).getD i.toNat default).cells.getD 0 default).asInt - 1)))))) = false) (h9 : (decide ((((nums s).getD i.toNat default).cells.getD 0 default).asInt < 0)) = true) (hn : At T_rvalid 0 (fun st => fin st rs_rvalid = some r) ic_rvalid 0 98 [(0, (.pv (.int .i64 n))), (3, (.ptr 0 0)), (7, (.pv (.int .i64 (IntKind.i64.wrap (lo + IntKind.i64.wrap (IntKind.i64.wrap ((((nums d).getD i.toNat default).cells.getD 0 default).asInt - 1) * (((nums s).getD i.toNat default).cells.getD 0 default).asInt)))))), (8, (.pv (.int .i64 hi))), (9, (.pv (.int .i64 (IntKind.i64.wrap (i + 1)))))] [(.obj (.box [(.pv (.int .i64 o)), (.pv (.sl 1 t (nums d))), (.pv (.sl 1 u (nums s)))]))]) : At T_rvalid 0 (fun st => fin st rs_rvalid = some r) ic_rvalid 0 98 [(0, .pv (.int .i64 n)), (3, .ptr 0 0), (7, .pv (.int .i64 lo)), (8, .pv (.int .i64 hi)), (9, .pv (.int .i64 i))] [.obj (.box [.pv (.int .i64 o), .pv (.sl 1 t (nums d)), .pv (.sl 1 u (nums s))])] := At.w (.lit (.ans true (.req (.req (.lit (.lit (.ans false (.req (.req (.lit (.lit (.req (.lit (.ans false (.lit (.lit (.lit (.req (.lit (.req (.lit (.lit (.lit (.req (.lit (.lit (.lit (.lit (.ans false (.req (.req (.lit (.ans true (.req (.req (.lit (.lit (.lit (.nil))))))))))))))))))))))))))))))))))))))) (And.intro h0 (And.intro h1 (And.intro h2 (And.intro h3 (And.intro h4 (And.intro h5 (And.intro h6 (And.intro h7 (And.intro h4 (And.intro h5 (And.intro h6 (And.intro h8 (And.intro h4 (And.intro h5 (And.intro h9 (And.intro h4 (And.intro h5 hn))))))))))))))))) (by kernel_rfl)
theorem rvalid_h0_4 {r : PV} (n : Int) (o : Int) (d s : List Int) (t u : Bool) (i lo hi : Int) (h0 : (decide (i < (↑(nums d).length : Int))) = true) (h1 : (decide (0 ≤ i) && decide (i.toNat < (nums d).length) && 1 == 1) = true) (h2 : (decide (0 + [Sh.int .i64].length ≤ ((nums d).getD i.toNat default).cells.length) && shFit ((nums d).getD i.toNat default).cells 0 [Sh.int .i64]) = true) (h3 : (IntKind.i64.wrap ((((nums d).getD i.toNat default).cells.getD 0 default).asInt - 1) == 0) = false) (h4 : (decide (0 ≤ i) && decide (i.toNat < (nums s).length) && 1 == 1) = true) (h5 : (decide (0 + [Sh.int .i64].length ≤ ((nums s).getD i.toNat default).cells.length) && shFit ((nums s).getD i.toNat default).cells 0 [Sh.int .i64]) = true) (h6 : (IntKind.i64.wrap ((((nums d).getD i.toNat default).cells.getD 0 default).asInt - 1) != 0) = true) (h7 : (decide ((((nums s).getD i.toNat default).cells.getD 0 default).asInt > IntKind.i64.wrap ((IntKind.i64.wrap (IntKind.i64.wrap (n - 1) - hi)).tdiv (IntKind.i64.wrap ((((nums d).getD i.toNat default).cells.getD 0 default).asInt - 1))))) = false) (h8 : (decide ((((nums s).getD i.toNat default).cells.getD 0 default).asInt < IntKind.i64.wrap (-IntKind.i64.wrap (lo.tdiv (IntKind.i64.wrap ((((nums d).getD i.toNat default).cells.getD 0 default).asInt - 1)))))) = false) (h9 : (decide ((((nums s).getD i.toNat default).cells.getD 0 default).asInt < 0)) = false) (hn : At T_rvalid 0 (fun st => fin st rs_rvalid = some r) ic_rvalid 0 98 [(0, (.pv (.int .i64 n))), (3, (.ptr 0 0)), (7, (.pv (.int .i64 lo))), (8, (.pv (.int .i64 (IntKind.i64.wrap (hi + IntKind.i64.wrap (IntKind.i64.wrap ((((nums d).getD i.toNat default).cells.getD 0 default).asInt - 1) * (((nums s).getD i.toNat default).cells.getD 0 default).asInt)))))), (9, (.pv (.int .i64 (IntKind.i64.wrap (i + 1)))))] [(.obj (.box [(.pv (.int .i64 o)), (.pv (.sl 1 t (nums d))), (.pv (.sl 1 u (nums s)))]))]) : At T_rvalid 0 (fun st => fin st rs_rvalid = some r) ic_rvalid 0 98 [(0, .pv (.int .i64 n)), (3, .ptr 0 0), (7, .pv (.int .i64 lo)), (8, .pv (.int .i64 hi)), (9, .pv (.int .i64 i))] [.obj (.box [.pv (.int .i64 o), .pv (.sl 1 t (nums d)), .pv (.sl 1 u (nums s))])] := At.w (.lit (.ans true (.req (.req (.lit (.lit (.ans false (.req (.req (.lit (.lit (.req (.lit (.ans false (.lit (.lit (.lit (.req (.lit (.req (.lit (.lit (.lit (.req (.lit (.lit (.lit (.lit (.ans false (.req (.req (.lit (.ans false (.req (.req (.lit (.lit (.lit (.nil))))))))))))))))))))))))))))))))))))))) (And.intro h0 (And.intro h1 (And.intro h2 (And.intro h3 (And.intro h4 (And.intro h5 (And.intro h6 (And.intro h7 (And.intro h4 (And.intro h5 (And.intro h6 (And.intro h8 (And.intro h4 (And.intro h5 (And.intro h9 (And.intro h4 (And.intro h5 hn))))))))))))))))) (by kernel_rfl)
theorem rvalid_h0_5 {r : PV} (n : Int) (o : Int) (d s : List Int) (t u : Bool) (i lo hi : Int) (h0 : (decide (i < (↑(nums d).length : Int))) = false) (hr : (.bool true) = r) : At T_rvalid 0 (fun st => fin st rs_rvalid = some r) ic_rvalid 0 98 [(0, .pv (.int .i64 n)), (3, .ptr 0 0), (7, .pv (.int .i64 lo)), (8, .pv (.int .i64 hi)), (9, .pv (.int .i64 i))] [.obj (.box [.pv (.int .i64 o), .pv (.sl 1 t (nums d)), .pv (.sl 1 u (nums s))])] := At.w (.lit (.ans false (.nil))) (And.intro h0 hr) (by kernel_rfl)
end Go.Pl

namespace Go.Pl
open Go.RowKit
theorem contains_run : ∀ ps, pre_contains ps = true → Gets T_contains 0 (fun st => fin st rs_contains = some (val_contains ps)) ic_contains [] (st0 nt_contains ps) := by
  intro ps hp
  have hp' := hp
  unfold pre_contains at hp
  split at hp
  · rename_i t xs v
    simp only [Bool.and_eq_true, decide_eq_true_eq] at hp
    obtain ⟨ns, rfl⟩ := nums_of hp.1
    refine contains_s_0 ns t v hp' ?_
    have := idxB_any (v := v) (l := ns) (i := 0)
    simp only [asInt_nums, val_contains, any_nums, ge_iff_le]
    rw [← this]
  · cases hp
theorem sizeB_ok {l : List Int} (h : ((sizeB l).2 != 0) = false) : l.length ≤ 6 ∧ l.all dimB = true := by
  unfold sizeB at h
  by_cases h6 : 6 < l.length
  · simp [h6] at h
  · refine ⟨by omega, ?_⟩
    cases ha : l.all dimB with
    | true => rfl
    | false => simp [h6, ha] at h
theorem off_loop (ns ms : List Int) (t u : Bool) (h6 : ns.length ≤ 6) (hl : ms.length = ns.length) {r : PV} : ∀ (m k : Nat) (n : Int), m + k = ns.length → r = .tup [.int .i64 (offL (ns.drop k) (ms.drop k) n).1, .int .i64 (offL (ns.drop k) (ms.drop k) n).2] →
    At T_off 0 (fun st => fin st rs_off = some r) ic_off 0 nt_off [(1, .pv (.sl 1 u (nums ms))), (8, .pv (.int .i64 n)), (24, .pv (.sl 1 t (nums ns))), (25, .pv (.int .i64 (nums ns).length)), (26, .pv (.int .i64 k))] [] := by
  intro m
  induction m with
  | zero =>
    intro k n hk hr
    rw [List.drop_of_length_le (by omega), List.drop_of_length_le (by omega)] at hr
    exact off_h0_3 ns ms t u k n (by simp; omega) hr.symm
  | succ m ih =>
    intro k n hk hr
    have hlt : k < ns.length := by omega
    have hlt2 : k < ms.length := by omega
    have e := nums_at' hlt
    have e2 := nums_at' hlt2
    rw [List.drop_eq_getElem_cons hlt, List.drop_eq_getElem_cons hlt2] at hr
    simp only [offL] at hr
    by_cases h1 : ms[k] < 0
    · simp only [h1, decide_true, Bool.true_or, cond_true] at hr
      exact off_h0_0 ns ms t u k n (by simp; omega) (by simp; omega) (by rw [e]; rfl) (by simp; omega) (by rw [e2]; rfl) (by rw [e2]; simpa [PV.cells, PV.asInt] using h1) hr.symm
    · by_cases h2 : ms[k] ≥ ns[k]
      · simp only [h1, h2, decide_true, decide_false, Bool.false_or, cond_true] at hr
        exact off_h0_1 ns ms t u k n (by simp; omega) (by simp; omega) (by rw [e]; rfl) (by simp; omega) (by rw [e2]; rfl) (by rw [e2]; simpa [PV.cells, PV.asInt] using h1) (by rw [e, e2]; simpa [PV.cells, PV.asInt] using h2) hr.symm
      · simp only [h1, h2, decide_false, Bool.false_or, cond_false] at hr
        refine off_h0_2 ns ms t u k n (by simp; omega) (by simp; omega) (by rw [e]; rfl) (by simp; omega) (by rw [e2]; rfl) (by rw [e2]; simpa [PV.cells, PV.asInt] using h1) (by rw [e, e2]; simpa [PV.cells, PV.asInt] using h2) ?_
        rw [next (by omega), e, e2]
        exact ih (k + 1) _ (by omega) hr
theorem roff_loop (ns ms : List Int) (t u : Bool) (h6 : ns.length ≤ 6) (hl : ms.length = ns.length) {r : PV} : ∀ (m k : Nat) (n : Int), m + k = ns.length → r = .tup [.int .i64 (offL (ns.drop k) (ms.drop k) n).1, .int .i64 (offL (ns.drop k) (ms.drop k) n).2] →
    At T_roff 0 (fun st => fin st rs_roff = some r) ic_roff 0 nt_roff [(0, .pv (.sl 1 t (nums ns))), (1, .pv (.sl 1 u (nums ms))), (8, .pv (.int .i64 n)), (9, .pv (.int .i64 k))] [] := by
  intro m
  induction m with
  | zero =>
    intro k n hk hr
    rw [List.drop_of_length_le (by omega), List.drop_of_length_le (by omega)] at hr
    exact roff_h0_3 ns ms t u k n (by simp; omega) hr.symm
  | succ m ih =>
    intro k n hk hr
    have hlt : k < ns.length := by omega
    have hlt2 : k < ms.length := by omega
    have e := nums_at' hlt
    have e2 := nums_at' hlt2
    rw [List.drop_eq_getElem_cons hlt, List.drop_eq_getElem_cons hlt2] at hr
    simp only [offL] at hr
    by_cases h1 : ms[k] < 0
    · simp only [h1, decide_true, Bool.true_or, cond_true] at hr
      exact roff_h0_0 ns ms t u k n (by simp; omega) (by simp; omega) (by rw [e2]; rfl) (by rw [e2]; simpa [PV.cells, PV.asInt] using h1) hr.symm
    · by_cases h2 : ms[k] ≥ ns[k]
      · simp only [h1, h2, decide_true, decide_false, Bool.false_or, cond_true] at hr
        exact roff_h0_1 ns ms t u k n (by simp; omega) (by simp; omega) (by rw [e2]; rfl) (by rw [e2]; simpa [PV.cells, PV.asInt] using h1) (by simp; omega) (by rw [e]; rfl) (by rw [e, e2]; simpa [PV.cells, PV.asInt] using h2) hr.symm
      · simp only [h1, h2, decide_false, Bool.false_or, cond_false] at hr
        refine roff_h0_2 ns ms t u k n (by simp; omega) (by simp; omega) (by rw [e2]; rfl) (by rw [e2]; simpa [PV.cells, PV.asInt] using h1) (by simp; omega) (by rw [e]; rfl) (by rw [e, e2]; simpa [PV.cells, PV.asInt] using h2) ?_
        rw [next (by omega), e, e2]
        exact ih (k + 1) _ (by omega) hr
theorem off_run : ∀ ps, pre_off ps = true → Gets T_off 0 (fun st => fin st rs_off = some (val_off ps)) ic_off [] (st0 nt_off ps) := by
  intro ps hp
  unfold pre_off at hp
  split at hp
  · rename_i t xs u ys
    simp only [Bool.and_eq_true] at hp
    obtain ⟨ns, rfl⟩ := nums_of hp.1
    obtain ⟨ms, rfl⟩ := nums_of hp.2
    have hv : val_off [.sl 1 t (nums ns), .sl 1 u (nums ms)] = .tup [.int .i64 (offB ns ms).1, .int .i64 (offB ns ms).2] := by simp [val_off, PV.ns, PV.asXs]
    rw [hv]
    cases hb : ((sizeB ns).2 != 0) with
    | true => exact off_s_0 ns ms t u (by simp [pre_size]) (by simpa using hb) (by simp [offB, hb])
    | false =>
      cases hl : ((ms.length : Int) != ns.length) with
      | true => exact off_s_1 ns ms t u (by simp [pre_size]) (by simpa using hb) (by simpa using hl) (by simp [offB, hb, hl])
      | false =>
        refine off_s_2 ns ms t u (by simp [pre_size]) (by simpa using hb) (by simpa using hl) ?_
        have hl' : ms.length = ns.length := by simp at hl; omega
        exact off_loop ns ms t u (sizeB_ok hb).1 hl' ns.length 0 0 (by omega) (by simp [offB, hb, hl])
  · cases hp
theorem roff_run : ∀ ps, pre_off ps = true → Gets T_roff 0 (fun st => fin st rs_roff = some (val_off ps)) ic_roff [] (st0 nt_roff ps) := by
  intro ps hp
  unfold pre_off at hp
  split at hp
  · rename_i t xs u ys
    simp only [Bool.and_eq_true] at hp
    obtain ⟨ns, rfl⟩ := nums_of hp.1
    obtain ⟨ms, rfl⟩ := nums_of hp.2
    have hv : val_off [.sl 1 t (nums ns), .sl 1 u (nums ms)] = .tup [.int .i64 (offB ns ms).1, .int .i64 (offB ns ms).2] := by simp [val_off, PV.ns, PV.asXs]
    rw [hv]
    cases hb : ((sizeB ns).2 != 0) with
    | true => exact roff_s_0 ns ms t u (by simp [pre_size]) (by simpa using hb) (by simp [offB, hb])
    | false =>
      cases hl : ((ms.length : Int) != ns.length) with
      | true => exact roff_s_1 ns ms t u (by simp [pre_size]) (by simpa using hb) (by simpa using hl) (by simp [offB, hb, hl])
      | false =>
        refine roff_s_2 ns ms t u (by simp [pre_size]) (by simpa using hb) (by simpa using hl) ?_
        have hl' : ms.length = ns.length := by simp at hl; omega
        exact roff_loop ns ms t u (sizeB_ok hb).1 hl' ns.length 0 0 (by omega) (by simp [offB, hb, hl])
  · cases hp
abbrev vw (o : Int) (d s : List Int) (t u : Bool) : PV := .agg [.int .i64 o, .sl 1 t (nums d), .sl 1 u (nums s)]
@[simp] theorem vw_D (o : Int) (d s : List Int) (t u : Bool) : (PV.agg [.int .i64 o, .sl 1 t (nums d), .sl 1 u (nums s)]).vD = d := by simp [PV.vD, PV.fld, PV.ns, PV.asXs]
@[simp] theorem vw_S (o : Int) (d s : List Int) (t u : Bool) : (PV.agg [.int .i64 o, .sl 1 t (nums d), .sl 1 u (nums s)]).vS = s := by simp [PV.vS, PV.fld, PV.ns, PV.asXs]
@[simp] theorem vw_O (o : Int) (d s : List Int) (t u : Bool) : (PV.agg [.int .i64 o, .sl 1 t (nums d), .sl 1 u (nums s)]).vO = o := by simp [PV.vO, PV.fld, PV.asInt]
@[simp] theorem sl_ns (t : Bool) (d : List Int) : (PV.sl 1 t (nums d)).ns = d := by simp [PV.ns, PV.asXs]
def atL : List Int → List Int → Int → Int
  | k :: ks, s :: ss, n => atL ks ss (w64 (n + w64 (k * s)))
  | _, _, n => n
def atB (o : Int) (d s ix : List Int) : Int × Int := bif formB d s then bif (offB d ix).2 != 0 then (0, (offB d ix).2) else (atL ix s o, 0) else (0, 1)
def val_at : List PV → PV
  | [p, q] => .tup [.int .i64 (atB p.vO p.vD p.vS q.ns).1, .int .i64 (atB p.vO p.vD p.vS q.ns).2]
  | _ => .nilp
def pre_at : List PV → Bool
  | [p, .sl 1 _ ys] => pre_view p && ys.all PV.isNum
  | _ => false
theorem offB_ok {d ix : List Int} (h : ((offB d ix).2 != 0) = false) : d.length ≤ 6 ∧ ix.length = d.length := by
  unfold offB at h
  cases hb : ((sizeB d).2 != 0) with
  | true => rw [hb, cond_true] at h; rw [h] at hb; cases hb
  | false =>
    cases hl : ((ix.length : Int) != d.length) with
    | true => rw [hb, hl] at h; cases h
    | false => exact ⟨(sizeB_ok hb).1, by simp at hl; omega⟩
theorem at_loop (o : Int) (d s : List Int) (t u : Bool) (ms : List Int) (x : Bool) (h6 : ms.length ≤ 6) (hs : s.length = ms.length) {r : PV} : ∀ (m k : Nat) (n : Int), m + k = ms.length → r = .tup [.int .i64 (atL (ms.drop k) (s.drop k) n), .int .i64 0] →
    At T_at 0 (fun st => fin st rs_at = some r) ic_at 0 nt_at [(2, .ptr 0 0), (8, .pv (.int .i64 n)), (26, .pv (.sl 1 x (nums ms))), (27, .pv (.int .i64 (nums ms).length)), (28, .pv (.int .i64 k))] [.obj (.box [.pv (.int .i64 o), .pv (.sl 1 t (nums d)), .pv (.sl 1 u (nums s))])] := by
  intro m
  induction m with
  | zero =>
    intro k n hk hr
    rw [List.drop_of_length_le (by omega), List.drop_of_length_le (by omega)] at hr
    exact at_h0_1 o d s t u ms x k n (by simp; omega) hr.symm
  | succ m ih =>
    intro k n hk hr
    have hlt : k < ms.length := by omega
    have hlt2 : k < s.length := by omega
    have e := nums_at' hlt
    have e2 := nums_at' hlt2
    rw [List.drop_eq_getElem_cons hlt, List.drop_eq_getElem_cons hlt2] at hr
    refine at_h0_0 o d s t u ms x k n (by simp; omega) (by simp; omega) (by rw [e]; rfl) (by simp; omega) (by rw [e2]; rfl) ?_
    rw [next (by omega), e, e2]
    exact ih (k + 1) _ (by omega) hr
theorem rat_loop (o : Int) (d s : List Int) (t u : Bool) (ms : List Int) (x : Bool) (h6 : ms.length ≤ 6) (hs : s.length = ms.length) {r : PV} : ∀ (m k : Nat) (n : Int), m + k = ms.length → r = .tup [.int .i64 (atL (ms.drop k) (s.drop k) n), .int .i64 0] →
    At T_rat 0 (fun st => fin st rs_rat = some r) ic_rat 0 nt_rat [(1, .pv (.sl 1 x (nums ms))), (2, .ptr 0 0), (9, .pv (.int .i64 n)), (10, .pv (.int .i64 k))] [.obj (.box [.pv (.int .i64 o), .pv (.sl 1 t (nums d)), .pv (.sl 1 u (nums s))])] := by
  intro m
  induction m with
  | zero =>
    intro k n hk hr
    rw [List.drop_of_length_le (by omega), List.drop_of_length_le (by omega)] at hr
    exact rat_h0_1 o d s t u ms x k n (by simp; omega) hr.symm
  | succ m ih =>
    intro k n hk hr
    have hlt : k < ms.length := by omega
    have hlt2 : k < s.length := by omega
    have e := nums_at' hlt
    have e2 := nums_at' hlt2
    rw [List.drop_eq_getElem_cons hlt, List.drop_eq_getElem_cons hlt2] at hr
    refine rat_h0_0 o d s t u ms x k n (by simp; omega) (by simp; omega) (by rw [e]; rfl) (by simp; omega) (by rw [e2]; rfl) ?_
    rw [next (by omega), e, e2]
    exact ih (k + 1) _ (by omega) hr
theorem at_run : ∀ ps, pre_at ps = true → Gets T_at 0 (fun st => fin st rs_at = some (val_at ps)) ic_at [] (st0 nt_at ps) := by
  intro ps hp
  unfold pre_at at hp
  split at hp
  · rename_i p x ys
    simp only [Bool.and_eq_true] at hp
    obtain ⟨o, d, s, t, u, rfl, h1, h2⟩ := view_of hp.1
    obtain ⟨ms, rfl⟩ := nums_of hp.2
    have hv : val_at [vw o d s t u, .sl 1 x (nums ms)] = .tup [.int .i64 (atB o d s ms).1, .int .i64 (atB o d s ms).2] := by simp [val_at]
    rw [hv]
    cases hf : formB d s with
    | false => exact at_s_0 o d s t u ms x hp.1 (by simp [hf]) (by simp [atB, hf])
    | true =>
      cases hb : ((offB d ms).2 != 0) with
      | true => exact at_s_1 o d s t u ms x hp.1 (by simp [hf]) (by simp [pre_off]) (by simpa using hb) (by simp [atB, hf, hb])
      | false =>
        refine at_s_2 o d s t u ms x hp.1 (by simp [hf]) (by simp [pre_off]) (by simpa using hb) ?_
        have hk := offB_ok hb
        have hs : s.length = d.length := by simp [formB] at hf; exact hf.2
        exact at_loop o d s t u ms x (by omega) (by omega) ms.length 0 o (by omega) (by simp [atB, hf, hb])
  · cases hp
theorem rat_run : ∀ ps, pre_at ps = true → Gets T_rat 0 (fun st => fin st rs_rat = some (val_at ps)) ic_rat [] (st0 nt_rat ps) := by
  intro ps hp
  unfold pre_at at hp
  split at hp
  · rename_i p x ys
    simp only [Bool.and_eq_true] at hp
    obtain ⟨o, d, s, t, u, rfl, h1, h2⟩ := view_of hp.1
    obtain ⟨ms, rfl⟩ := nums_of hp.2
    have hv : val_at [vw o d s t u, .sl 1 x (nums ms)] = .tup [.int .i64 (atB o d s ms).1, .int .i64 (atB o d s ms).2] := by simp [val_at]
    rw [hv]
    cases hf : formB d s with
    | false => exact rat_s_0 o d s t u ms x hp.1 (by simp [hf]) (by simp [atB, hf])
    | true =>
      cases hb : ((offB d ms).2 != 0) with
      | true => exact rat_s_1 o d s t u ms x hp.1 (by simp [hf]) (by simp [pre_off]) (by simpa using hb) (by simp [atB, hf, hb])
      | false =>
        refine rat_s_2 o d s t u ms x hp.1 (by simp [hf]) (by simp [pre_off]) (by simpa using hb) ?_
        have hk := offB_ok hb
        have hs : s.length = d.length := by simp [formB] at hf; exact hf.2
        exact rat_loop o d s t u ms x (by omega) (by omega) ms.length 0 o (by omega) (by simp [atB, hf, hb])
  · cases hp
end Go.Pl

namespace Go.Pl
open Go.RowKit
def fewB (o : Int) (d s : List Int) : Bool :=
  !decide (8 < d.length) && (!decide (8 < s.length) && (!decide (o < -1000000) && (!decide (1000000 < o) && (s.all (fun x => !decide (x < -1000000) && !decide (1000000 < x)) && ((sizeB d).2 != 0 || decide ((sizeB d).1 ≤ 300))))))
def val_few : List PV → PV
  | [p] => .bool (fewB p.vO p.vD p.vS)
  | _ => .nilp
theorem few_loop (o : Int) (d s : List Int) (t u : Bool) (h8 : s.length ≤ 8) {r : PV} : ∀ (m k : Nat), m + k = s.length → r = .bool ((s.drop k).all (fun x => !decide (x < -1000000) && !decide (1000000 < x)) && ((sizeB d).2 != 0 || decide ((sizeB d).1 ≤ 300))) →
    At T_few 0 (fun st => fin st rs_few = some r) ic_few 0 nt_few [(1, .ptr 0 0), (3, .pv (.int .i64 k))] [.obj (.box [.pv (.int .i64 o), .pv (.sl 1 t (nums d)), .pv (.sl 1 u (nums s))])] := by
  intro m
  induction m with
  | zero =>
    intro k hk hr
    rw [List.drop_of_length_le (by omega), List.all_nil, Bool.true_and] at hr
    cases hb : ((sizeB d).2 != 0) with
    | true => exact few_h0_3 o d s t u k (by simp; omega) (by simp [pre_size]) (by simpa using hb) (by rw [hr, hb]; rfl)
    | false => exact few_h0_4 o d s t u k (by simp; omega) (by simp [pre_size]) (by simpa using hb) (by rw [hr, hb, asInt_nums]; rfl)
  | succ m ih =>
    intro k hk hr
    have hlt : k < s.length := by omega
    have e := nums_at' hlt
    rw [List.drop_eq_getElem_cons hlt, List.all_cons] at hr
    by_cases h1 : s[k] < -1000000
    · exact few_h0_0 o d s t u k (by simp; omega) (by simp; omega) (by rw [e]; rfl) (by rw [e]; simpa [PV.cells, PV.asInt] using h1) (by rw [hr]; simp [h1])
    · by_cases h2 : 1000000 < s[k]
      · exact few_h0_1 o d s t u k (by simp; omega) (by simp; omega) (by rw [e]; rfl) (by rw [e]; simpa [PV.cells, PV.asInt] using h1) (by rw [e]; simpa [PV.cells, PV.asInt] using h2) (by rw [hr]; simp [h2])
      · refine few_h0_2 o d s t u k (by simp; omega) (by simp; omega) (by rw [e]; rfl) (by rw [e]; simpa [PV.cells, PV.asInt] using h1) (by rw [e]; simpa [PV.cells, PV.asInt] using h2) ?_
        rw [next (by omega)]
        refine ih (k + 1) (by omega) ?_
        rw [hr]
        simp only [h1, h2, decide_false, Bool.not_false, Bool.true_and]
theorem few_run : ∀ ps, pre_v1 ps = true → Gets T_few 0 (fun st => fin st rs_few = some (val_few ps)) ic_few [] (st0 nt_few ps) := by
  intro ps hp
  unfold pre_v1 at hp
  split at hp
  · obtain ⟨o, d, s, t, u, rfl, h1, h2⟩ := view_of hp
    have hv : val_few [vw o d s t u] = .bool (fewB o d s) := by simp only [val_few, vw_O, vw_D, vw_S]
    rw [hv]
    by_cases hd : 8 < d.length
    · exact few_s_0 o d s t u (by simp; omega) (by simp [fewB, hd])
    · by_cases hs : 8 < s.length
      · exact few_s_1 o d s t u (by simp; omega) (by simp; omega) (by simp [fewB, hs])
      · by_cases ho : o < -1000000
        · exact few_s_2 o d s t u (by simp; omega) (by simp; omega) (by simp; omega) (by simp [fewB, ho])
        · by_cases ho2 : 1000000 < o
          · exact few_s_3 o d s t u (by simp; omega) (by simp; omega) (by simp; omega) (by simp; omega) (by simp [fewB, ho2])
          · refine few_s_4 o d s t u (by simp; omega) (by simp; omega) (by simp; omega) (by simp; omega) ?_
            refine few_loop o d s t u (by omega) s.length 0 (by omega) ?_
            simp only [fewB, hd, hs, ho, ho2, decide_false, Bool.not_false, Bool.true_and, List.drop_zero]
  · cases hp
theorem nums_set {xs : List Int} {j : Nat} (h : j < xs.length) (n : Int) :
    (nums xs).set (0 + j) (((nums xs).getD (0 + j) default).withCells (splice ((nums xs).getD (0 + j) default).cells 0 (PV.int .i64 n).cells)) = nums (xs.set j n) := by
  rw [Nat.zero_add, nums_at h]
  simp [PV.withCells, PV.cells, splice, nums, List.map_set]
theorem nums_rep (n : Nat) (v : Int) : List.replicate n (PV.int .i64 v) = nums (List.replicate n v) := by simp [nums]
def sufP : List Int → Int
  | [] => 1
  | d :: l => w64 (sufP l * d)
def strd : List Int → List Int
  | [] => []
  | _ :: l => sufP l :: strd l
@[simp] theorem strd_length : ∀ l : List Int, (strd l).length = l.length
  | [] => rfl
  | _ :: l => by simp [strd, strd_length l]
theorem str_set (ns : List Int) (j : Nat) (hj : j < ns.length) : (List.replicate (j + 1) 0 ++ strd (ns.drop (j + 1))).set j (sufP (ns.drop (j + 1))) = List.replicate j 0 ++ strd (ns.drop j) := by
  rw [List.drop_eq_getElem_cons hj, strd, List.replicate_succ', List.append_assoc, List.set_append]
  simp
def val_of : List PV → PV
  | [p] => .tup [bif (sizeB p.ns).2 != 0 then .agg [.int .i64 0, .sl 0 true [], .sl 0 true []] else .agg [.int .i64 0, .sl 1 false (nums p.ns), .sl 1 false (nums (strd p.ns))], .int .i64 (sizeB p.ns).2]
  | _ => .nilp
theorem of_loop (ns : List Int) (t : Bool) (h6 : ns.length ≤ 6) : ∀ (k i : Nat), i + k = ns.length →
    At T_of 0 (fun st => fin st rs_of = some (.tup [.agg [.int .i64 0, .sl 1 false (nums ns), .sl 1 false (nums (strd ns))], .int .i64 0])) ic_of 0 nt_of [(0, .pv (.sl 1 t (nums ns))), (2, .ptr 0 0), (6, .ptr 1 0), (7, .pv (.int .i64 (sufP (ns.drop k)))), (26, .pv (.int .i64 (nums ns).length)), (27, .pv (.int .i64 i))]
      [(.obj (.box [.pv (.int .i64 0), .pv (.sl 0 true []), .pv (.sl 0 true [])])), (.obj (.box [.pv (.int .i64 0), .pv (.sl 1 false (nums ns)), .row 2 (((nums ns).length : Int).toNat) 0 (((nums ns).length : Int).toNat)])), (.obj (.row false 3 1 (nums (List.replicate k 0 ++ strd (ns.drop k)))))] := by
  intro k
  induction k with
  | zero =>
    intro i hi
    refine of_h0_1 ns t i _ _ (by simp; omega) (by simp) ?_
    rw [List.drop_zero, List.drop_zero, List.take_of_length_le (by simp)]
    rfl
  | succ j ih =>
    intro i hi
    have hlt : j < ns.length := by omega
    have ej : IntKind.i64.wrap (IntKind.i64.wrap (((nums ns).length : Int) - 1) - i) = (j : Int) := by
      rw [nums_length, wrap64 (n := (ns.length : Int) - 1) (by omega) (by omega), wrap64 (by omega) (by omega)]
      omega
    have e := nums_at' hlt
    have hx : (List.replicate (j + 1) 0 ++ strd (ns.drop (j + 1))).length = ns.length := by simp; omega
    refine of_h0_0 ns t i _ _ (by simp; omega) ?_ ?_ ?_ (by rw [ej, e]; rfl) ?_
    · rw [ej]; simp; omega
    · have e3 := nums_at' (ns := List.replicate (j + 1) 0 ++ strd (ns.drop (j + 1))) (k := j) (by omega)
      rw [ej, Nat.zero_add, e3]
      simp [PV.cells, PV.cellsOk]
      omega
    · rw [ej]; simp; omega
    · rw [ej, e]
      simp only [Int.toNat_natCast]
      rw [nums_set (by omega), str_set ns j hlt]
      have ew : IntKind.i64.wrap (sufP (ns.drop (j + 1)) * ((PV.int .i64 ns[j]).cells.getD 0 default).asInt) = sufP (ns.drop j) := by
        rw [List.drop_eq_getElem_cons hlt]; rfl
      rw [ew, next (by omega)]
      exact ih (i + 1) (by omega)
theorem of_run : ∀ ps, pre_size ps = true → Gets T_of 0 (fun st => fin st rs_of = some (val_of ps)) ic_of [] (st0 nt_of ps) := by
  intro ps hp
  unfold pre_size at hp
  split at hp
  · rename_i t xs
    obtain ⟨ns, rfl⟩ := nums_of hp
    cases hb : ((sizeB ns).2 != 0) with
    | true => exact of_s_0 ns t (by simp [pre_size]) (by simpa using hb) (by simp [val_of, hb])
    | false =>
      have h6 := (sizeB_ok hb).1
      refine of_s_1 ns t (by simp [pre_size]) (by simpa using hb) (by simp [pre_copy]; omega) (by simp; omega) ?_
      have := of_loop ns t h6 ns.length 0 (by omega)
      have e0 : (sizeB ns).2 = 0 := by simpa using hb
      have hv : val_of [.sl 1 t (nums ns)] = .tup [.agg [.int .i64 0, .sl 1 false (nums ns), .sl 1 false (nums (strd ns))], .int .i64 0] := by simp [val_of, e0]
      rw [hv, nums_rep]
      rw [List.drop_length] at this
      simp only [sufP, strd, List.append_nil, nums_length, Int.toNat_natCast] at this ⊢
      exact this
  · cases hp
end Go.Pl

namespace Go.Pl
open Go.RowKit
def idxR : List Int → Int → Int × List Int
  | [], k => (k, [])
  | d :: l, k => (w64 ((idxR l k).1.tdiv d), (idxR l k).1.tmod d :: (idxR l k).2)
@[simp] theorem idxR_length : ∀ (l : List Int) (k : Int), (idxR l k).2.length = l.length
  | [], _ => rfl
  | _ :: l, k => by simp [idxR, idxR_length l k]
def idxE (d : List Int) (k : Int) : Int := bif (sizeB d).2 != 0 then (sizeB d).2 else bif decide (k < 0) then 2 else bif decide (k ≥ (sizeB d).1) then 2 else 0
def val_idx : List PV → PV
  | [p, q] => .tup [bif idxE p.ns q.asInt != 0 then .sl 0 true [] else .sl 1 false (nums (idxR p.ns q.asInt).2), .int .i64 (idxE p.ns q.asInt)]
  | _ => .nilp
def pre_idx : List PV → Bool
  | [.sl 1 _ xs, .int .i64 _] => xs.all PV.isNum
  | _ => false
theorem idx_set (ns : List Int) (k : Int) (j : Nat) (hj : j < ns.length) :
    (List.replicate (j + 1) 0 ++ (idxR (ns.drop (j + 1)) k).2).set j ((idxR (ns.drop (j + 1)) k).1.tmod ns[j]) = List.replicate j 0 ++ (idxR (ns.drop j) k).2 := by
  rw [List.drop_eq_getElem_cons hj, idxR, List.replicate_succ', List.append_assoc, List.set_append]
  simp
theorem sizeB_pos {l : List Int} (h : ((sizeB l).2 != 0) = false) {k : Int} (h0 : 0 ≤ k) (h1 : k < (sizeB l).1) : ∀ j (hj : j < l.length), l[j] ≠ 0 := by
  intro j hj e
  obtain ⟨h6, ha⟩ := sizeB_ok h
  have hz : l.any (· == 0) = true := by
    rw [List.any_eq_true]
    exact ⟨_, List.getElem_mem hj, by simp [e]⟩
  have : (sizeB l).1 = 0 := by simp only [sizeB, ha, hz, Nat.not_lt.2 h6, decide_false, cond_false, cond_true]
  omega
theorem ridx_loop (ns : List Int) (t : Bool) (k0 : Int) (h6 : ns.length ≤ 6) (hz : ∀ j (hj : j < ns.length), ns[j] ≠ 0) : ∀ (j : Nat), j ≤ ns.length →
    At T_ridx 0 (fun st => fin st rs_ridx = some (.tup [.sl 1 false (nums (idxR ns k0).2), .int .i64 0])) ic_ridx 0 nt_ridx [(0, .pv (.sl 1 t (nums ns))), (1, .pv (.int .i64 (idxR (ns.drop j) k0).1)), (8, .row 0 (((nums ns).length : Int).toNat) 0 (((nums ns).length : Int).toNat)), (9, .pv (.int .i64 ((j : Int) - 1)))]
      [.obj (.row false 3 1 (nums (List.replicate j 0 ++ (idxR (ns.drop j) k0).2)))] := by
  intro j
  induction j with
  | zero =>
    intro _
    refine ridx_h0_1 ns t _ (((0 : Nat) : Int) - 1) _ (by decide) (by simp) ?_
    rw [List.drop_zero, List.drop_zero, List.take_of_length_le (by simp)]
    rfl
  | succ j ih =>
    intro hk
    have hlt : j < ns.length := by omega
    have ei : ((j + 1 : Nat) : Int) - 1 = (j : Int) := by omega
    rw [ei]
    have e := nums_at' hlt
    have hx : (List.replicate (j + 1) 0 ++ (idxR (ns.drop (j + 1)) k0).2).length = ns.length := by simp; omega
    refine ridx_h0_0 ns t _ (j : Int) _ (by simp) (by simp; omega) (by rw [e]; rfl) (by rw [e]; simpa [PV.cells, PV.asInt] using hz j hlt) (by simp; omega) ?_ ?_
    · have e3 := nums_at' (ns := List.replicate (j + 1) 0 ++ (idxR (ns.drop (j + 1)) k0).2) (k := j) (by omega)
      rw [Nat.zero_add, e3]
      simp [PV.cells, PV.cellsOk]
      omega
    · rw [e]
      simp only [Int.toNat_natCast, PV.cells, List.getD_cons_zero, PV.asInt]
      have := nums_set (xs := List.replicate (j + 1) 0 ++ (idxR (ns.drop (j + 1)) k0).2) (j := j) (by omega) ((idxR (ns.drop (j + 1)) k0).1.tmod ns[j])
      simp only [PV.cells] at this
      rw [this, idx_set ns k0 j hlt]
      have ew : IntKind.i64.wrap ((idxR (ns.drop (j + 1)) k0).1.tdiv ns[j]) = (idxR (ns.drop j) k0).1 := by
        rw [List.drop_eq_getElem_cons hlt]; rfl
      rw [ew, wrap64 (by omega) (by omega)]
      exact ih (by omega)
theorem aidx_loop (ns : List Int) (t : Bool) (k0 : Int) (h6 : ns.length ≤ 6) (hz : ∀ j (hj : j < ns.length), ns[j] ≠ 0) : ∀ (j i : Nat), i + j = ns.length →
    At T_aidx 0 (fun st => fin st rs_aidx = some (.tup [.sl 1 false (nums (idxR ns k0).2), .int .i64 0])) ic_aidx 0 nt_aidx [(0, .pv (.sl 1 t (nums ns))), (1, .pv (.int .i64 (idxR (ns.drop j) k0).1)), (8, .row 0 (((nums ns).length : Int).toNat) 0 (((nums ns).length : Int).toNat)), (30, .pv (.int .i64 (nums ns).length)), (31, .pv (.int .i64 i))]
      [.obj (.row false 3 1 (nums (List.replicate j 0 ++ (idxR (ns.drop j) k0).2)))] := by
  intro j
  induction j with
  | zero =>
    intro i hi
    refine aidx_h0_1 ns t _ i _ (by simp; omega) (by simp) ?_
    rw [List.drop_zero, List.drop_zero, List.take_of_length_le (by simp)]
    rfl
  | succ j ih =>
    intro i hi
    have hlt : j < ns.length := by omega
    have ej : IntKind.i64.wrap (IntKind.i64.wrap (((nums ns).length : Int) - 1) - i) = (j : Int) := by
      rw [nums_length, wrap64 (n := (ns.length : Int) - 1) (by omega) (by omega), wrap64 (by omega) (by omega)]
      omega
    have e := nums_at' hlt
    have hx : (List.replicate (j + 1) 0 ++ (idxR (ns.drop (j + 1)) k0).2).length = ns.length := by simp; omega
    refine aidx_h0_0 ns t _ i _ (by simp; omega) (by rw [ej]; simp; omega) (by rw [ej, e]; rfl) (by rw [ej, e]; simpa [PV.cells, PV.asInt] using hz j hlt) (by rw [ej]; simp; omega) ?_ ?_
    · have e3 := nums_at' (ns := List.replicate (j + 1) 0 ++ (idxR (ns.drop (j + 1)) k0).2) (k := j) (by omega)
      rw [ej, Nat.zero_add, e3]
      simp [PV.cells, PV.cellsOk]
      omega
    · rw [ej, e]
      simp only [Int.toNat_natCast, PV.cells, List.getD_cons_zero, PV.asInt]
      have := nums_set (xs := List.replicate (j + 1) 0 ++ (idxR (ns.drop (j + 1)) k0).2) (j := j) (by omega) ((idxR (ns.drop (j + 1)) k0).1.tmod ns[j])
      simp only [PV.cells] at this
      rw [this, idx_set ns k0 j hlt]
      have ew : IntKind.i64.wrap ((idxR (ns.drop (j + 1)) k0).1.tdiv ns[j]) = (idxR (ns.drop j) k0).1 := by
        rw [List.drop_eq_getElem_cons hlt]; rfl
      rw [ew, next (by omega)]
      exact ih (i + 1) (by omega)
theorem ridx_run : ∀ ps, pre_idx ps = true → Gets T_ridx 0 (fun st => fin st rs_ridx = some (val_idx ps)) ic_ridx [] (st0 nt_ridx ps) := by
  intro ps hp
  unfold pre_idx at hp
  split at hp
  · rename_i t xs k
    obtain ⟨ns, rfl⟩ := nums_of hp
    have hv : val_idx [.sl 1 t (nums ns), .int .i64 k] = .tup [bif idxE ns k != 0 then .sl 0 true [] else .sl 1 false (nums (idxR ns k).2), .int .i64 (idxE ns k)] := by simp [val_idx, PV.asInt]
    rw [hv]
    cases hb : ((sizeB ns).2 != 0) with
    | true => exact ridx_s_0 ns t k (by simp [pre_size]) (by simpa using hb) (by simp [idxE, hb])
    | false =>
      by_cases h0 : k < 0
      · exact ridx_s_1 ns t k (by simp [pre_size]) (by simpa using hb) (by simpa using h0) (by simp [idxE, hb, h0])
      · by_cases h1 : k ≥ (sizeB ns).1
        · exact ridx_s_2 ns t k (by simp [pre_size]) (by simpa using hb) (by simpa using h0) (by simpa using h1) (by simp [idxE, hb, h0, h1])
        · have h6 := (sizeB_ok hb).1
          have hz := sizeB_pos hb (by omega) (by omega : k < (sizeB ns).1)
          have he : idxE ns k = 0 := by simp only [idxE, hb, h0, h1, decide_false, cond_false]
          refine ridx_s_3 ns t k (by simp [pre_size]) (by simpa using hb) (by simpa using h0) (by simpa using h1) (by simp; omega) ?_
          rw [he, nums_rep]
          have := ridx_loop ns t k h6 hz ns.length (Nat.le_refl _)
          rw [List.drop_length] at this
          rw [wrap64 (by simp; omega) (by simp; omega)]
          simp only [idxR, List.append_nil, nums_length, Int.toNat_natCast] at this ⊢
          exact this
  · cases hp
theorem aidx_run : ∀ ps, pre_idx ps = true → Gets T_aidx 0 (fun st => fin st rs_aidx = some (val_idx ps)) ic_aidx [] (st0 nt_aidx ps) := by
  intro ps hp
  unfold pre_idx at hp
  split at hp
  · rename_i t xs k
    obtain ⟨ns, rfl⟩ := nums_of hp
    have hv : val_idx [.sl 1 t (nums ns), .int .i64 k] = .tup [bif idxE ns k != 0 then .sl 0 true [] else .sl 1 false (nums (idxR ns k).2), .int .i64 (idxE ns k)] := by simp [val_idx, PV.asInt]
    rw [hv]
    cases hb : ((sizeB ns).2 != 0) with
    | true => exact aidx_s_0 ns t k (by simp [pre_size]) (by simpa using hb) (by simp [idxE, hb])
    | false =>
      by_cases h0 : k < 0
      · exact aidx_s_1 ns t k (by simp [pre_size]) (by simpa using hb) (by simpa using h0) (by simp [idxE, hb, h0])
      · by_cases h1 : k ≥ (sizeB ns).1
        · exact aidx_s_2 ns t k (by simp [pre_size]) (by simpa using hb) (by simpa using h0) (by simpa using h1) (by simp [idxE, hb, h0, h1])
        · have h6 := (sizeB_ok hb).1
          have hz := sizeB_pos hb (by omega) (by omega : k < (sizeB ns).1)
          have he : idxE ns k = 0 := by simp only [idxE, hb, h0, h1, decide_false, cond_false]
          refine aidx_s_3 ns t k (by simp [pre_size]) (by simpa using hb) (by simpa using h0) (by simpa using h1) (by simp; omega) ?_
          rw [he, nums_rep]
          have := aidx_loop ns t k h6 hz ns.length 0 (by omega)
          rw [List.drop_length] at this
          simp only [idxR, List.append_nil, nums_length, Int.toNat_natCast] at this ⊢
          exact this
  · cases hp
end Go.Pl

namespace Go.Pl
open Go.RowKit
def vldL (n : Int) : List Int → List Int → Int → Int → Bool
  | d :: ds, s :: ss, lo, hi => bif d == 1 then vldL n ds ss lo hi else bif decide (s ≥ 0) then (bif decide (s > (n - 1 - hi).tdiv (d - 1)) then false else vldL n ds ss lo (hi + (d - 1) * s))
      else bif decide (s < -(lo.tdiv (d - 1))) then false else vldL n ds ss (lo + (d - 1) * s) hi
  | _, _, _, _ => true
theorem tdiv_in {a b : Int} (h0 : 0 ≤ b) (ha : 0 < a) : 0 ≤ b.tdiv a ∧ b.tdiv a ≤ b := by
  rw [Int.tdiv_eq_ediv_of_nonneg h0]
  exact ⟨Int.ediv_nonneg h0 (by omega), Int.ediv_le_self a h0⟩
theorem mul_in {a b s : Int} (h0 : 0 ≤ b) (ha : 0 < a) (hs : s ≤ b.tdiv a) : a * s ≤ b := by
  rw [Int.tdiv_eq_ediv_of_nonneg h0] at hs
  have := (Int.le_ediv_iff_mul_le ha).1 hs
  rwa [Int.mul_comm]
theorem vld_nums {n d lo hi : Int} (hn : n ≤ 9223372036854775807) (hd : 2 ≤ d ∧ d ≤ 4096) (h0 : 0 ≤ lo) (h1 : lo ≤ hi) (h2 : hi < n) :
    IntKind.i64.wrap (d - 1) = d - 1 ∧ IntKind.i64.wrap ((IntKind.i64.wrap (IntKind.i64.wrap (n - 1) - hi)).tdiv (d - 1)) = (n - 1 - hi).tdiv (d - 1) ∧ IntKind.i64.wrap (-IntKind.i64.wrap (lo.tdiv (d - 1))) = -(lo.tdiv (d - 1)) := by
  have t1 := tdiv_in (a := d - 1) (b := n - 1 - hi) (by omega) (by omega)
  have t2 := tdiv_in (a := d - 1) (b := lo) h0 (by omega)
  refine ⟨wrap64 (by omega) (by omega), ?_, ?_⟩
  · rw [wrap64 (n := n - 1) (by omega) (by omega), wrap64 (n := n - 1 - hi) (by omega) (by omega), wrap64 (by omega) (by omega)]
  · rw [wrap64 (n := lo.tdiv (d - 1)) (by omega) (by omega), wrap64 (by omega) (by omega)]
theorem vld_up {n d lo hi s : Int} (hn : n ≤ 9223372036854775807) (hd : 2 ≤ d ∧ d ≤ 4096) (h0 : 0 ≤ lo) (h1 : lo ≤ hi) (h2 : hi < n) (hs : 0 ≤ s) (hq : ¬ s > (n - 1 - hi).tdiv (d - 1)) :
    IntKind.i64.wrap (hi + IntKind.i64.wrap ((d - 1) * s)) = hi + (d - 1) * s ∧ lo ≤ hi + (d - 1) * s ∧ hi + (d - 1) * s < n := by
  have m := mul_in (a := d - 1) (b := n - 1 - hi) (s := s) (by omega) (by omega) (by omega)
  have m0 : 0 ≤ (d - 1) * s := Int.mul_nonneg (by omega) hs
  exact ⟨by rw [wrap64 (n := (d - 1) * s) (by omega) (by omega), wrap64 (by omega) (by omega)], by omega, by omega⟩
theorem vld_down {n d lo hi s : Int} (hn : n ≤ 9223372036854775807) (hd : 2 ≤ d ∧ d ≤ 4096) (h0 : 0 ≤ lo) (h1 : lo ≤ hi) (h2 : hi < n) (hs : s < 0) (hq : ¬ s < -(lo.tdiv (d - 1))) :
    IntKind.i64.wrap (lo + IntKind.i64.wrap ((d - 1) * s)) = lo + (d - 1) * s ∧ 0 ≤ lo + (d - 1) * s ∧ lo + (d - 1) * s ≤ hi := by
  have m := mul_in (a := d - 1) (b := lo) (s := -s) (by omega) (by omega) (by omega)
  rw [Int.mul_neg] at m
  have m0 : 0 ≤ (d - 1) * -s := Int.mul_nonneg (by omega) (by omega)
  rw [Int.mul_neg] at m0
  exact ⟨by rw [wrap64 (n := (d - 1) * s) (by omega) (by omega), wrap64 (by omega) (by omega)], by omega, by omega⟩
theorem valid_loop (n o : Int) (d s : List Int) (t u : Bool) (hn : n ≤ 9223372036854775807) (h6 : d.length ≤ 6) (hs : s.length = d.length) (hd : ∀ j (hj : j < d.length), 1 ≤ d[j] ∧ d[j] ≤ 4096) {r : PV} : ∀ (m k : Nat) (lo hi : Int), m + k = d.length → 0 ≤ lo → lo ≤ hi → hi < n → r = .bool (vldL n (d.drop k) (s.drop k) lo hi) →
    At T_valid 0 (fun st => fin st rs_valid = some r) ic_valid 0 nt_valid [(0, .pv (.int .i64 n)), (3, .ptr 0 0), (5, .pv (.int .i64 lo)), (6, .pv (.int .i64 hi)), (30, .pv (.sl 1 t (nums d))), (31, .pv (.int .i64 (nums d).length)), (32, .pv (.int .i64 k))] [.obj (.box [.pv (.int .i64 o), .pv (.sl 1 t (nums d)), .pv (.sl 1 u (nums s))])] := by
  intro m
  induction m with
  | zero =>
    intro k lo hi hk h0 h1 h2 hr
    rw [List.drop_of_length_le (by omega), List.drop_of_length_le (by omega)] at hr
    exact valid_h0_5 n o d s t u k lo hi (by simp; omega) hr.symm
  | succ m ih =>
    intro k lo hi hk h0 h1 h2 hr
    have hlt : k < d.length := by omega
    have hlt2 : k < s.length := by omega
    have e := nums_at' hlt
    have e2 := nums_at' hlt2
    have hdk := hd k hlt
    rw [List.drop_eq_getElem_cons hlt, List.drop_eq_getElem_cons hlt2, vldL] at hr
    by_cases hone : d[k] = 1
    · simp only [hone, beq_self_eq_true, cond_true] at hr
      refine valid_h0_0 n o d s t u k lo hi (by simp; omega) (by simp; omega) (by rw [e]; rfl) (by simp; omega) (by rw [e2]; rfl) (by rw [e]; simpa [PV.cells, PV.asInt] using hone) ?_
      rw [next (by omega)]
      exact ih (k + 1) lo hi (by omega) h0 h1 h2 hr
    · have h1b : (d[k] == 1) = false := by simpa using hone
      obtain ⟨w1, w2, w3⟩ := vld_nums (n := n) (d := d[k]) (lo := lo) (hi := hi) hn (by omega) h0 h1 h2
      have e3 : (((nums d).getD (k : Int).toNat default).cells.getD 0 default).asInt = d[k] := by rw [e]; rfl
      have e4 : (((nums s).getD (k : Int).toNat default).cells.getD 0 default).asInt = s[k] := by rw [e2]; rfl
      have hne : (IntKind.i64.wrap ((((nums d).getD (k : Int).toNat default).cells.getD 0 default).asInt - 1) != 0) = true := by rw [e3, w1]; simp; omega
      rw [h1b, cond_false] at hr
      by_cases hp : s[k] ≥ 0
      · simp only [hp, decide_true, cond_true] at hr
        by_cases hq : s[k] > (n - 1 - hi).tdiv (d[k] - 1)
        · simp only [hq, decide_true, cond_true] at hr
          exact valid_h0_1 n o d s t u k lo hi (by simp; omega) (by simp; omega) (by rw [e]; rfl) (by simp; omega) (by rw [e2]; rfl) (by rw [e3]; exact h1b) (by rw [e4]; simpa using hp) hne (by rw [e3, e4, w1, w2]; simpa using hq) hr.symm
        · simp only [hq, decide_false, cond_false] at hr
          obtain ⟨v1, v2, v3⟩ := vld_up (n := n) (d := d[k]) (lo := lo) (hi := hi) hn (by omega) h0 h1 h2 hp hq
          refine valid_h0_2 n o d s t u k lo hi (by simp; omega) (by simp; omega) (by rw [e]; rfl) (by simp; omega) (by rw [e2]; rfl) (by rw [e3]; exact h1b) (by rw [e4]; simpa using hp) hne (by rw [e3, e4, w1, w2]; simpa using hq) ?_
          rw [next (by omega), e3, e4, w1, v1]
          exact ih (k + 1) lo _ (by omega) h0 v2 v3 hr
      · simp only [hp, decide_false, cond_false] at hr
        by_cases hq : s[k] < -(lo.tdiv (d[k] - 1))
        · simp only [hq, decide_true, cond_true] at hr
          exact valid_h0_3 n o d s t u k lo hi (by simp; omega) (by simp; omega) (by rw [e]; rfl) (by simp; omega) (by rw [e2]; rfl) (by rw [e3]; exact h1b) (by rw [e4]; simpa using hp) hne (by rw [e3, e4, w1, w3]; simpa using hq) hr.symm
        · simp only [hq, decide_false, cond_false] at hr
          obtain ⟨v1, v2, v3⟩ := vld_down (n := n) (d := d[k]) (lo := lo) (hi := hi) hn (by omega) h0 h1 h2 (by omega) hq
          refine valid_h0_4 n o d s t u k lo hi (by simp; omega) (by simp; omega) (by rw [e]; rfl) (by simp; omega) (by rw [e2]; rfl) (by rw [e3]; exact h1b) (by rw [e4]; simpa using hp) hne (by rw [e3, e4, w1, w3]; simpa using hq) ?_
          rw [next (by omega), e3, e4, w1, v1]
          exact ih (k + 1) _ hi (by omega) v2 v3 h2 hr
theorem rvalid_loop (n o : Int) (d s : List Int) (t u : Bool) (hn : n ≤ 9223372036854775807) (h6 : d.length ≤ 6) (hs : s.length = d.length) (hd : ∀ j (hj : j < d.length), 1 ≤ d[j] ∧ d[j] ≤ 4096) {r : PV} : ∀ (m k : Nat) (lo hi : Int), m + k = d.length → 0 ≤ lo → lo ≤ hi → hi < n → r = .bool (vldL n (d.drop k) (s.drop k) lo hi) →
    At T_rvalid 0 (fun st => fin st rs_rvalid = some r) ic_rvalid 0 nt_rvalid [(0, .pv (.int .i64 n)), (3, .ptr 0 0), (7, .pv (.int .i64 lo)), (8, .pv (.int .i64 hi)), (9, .pv (.int .i64 k))] [.obj (.box [.pv (.int .i64 o), .pv (.sl 1 t (nums d)), .pv (.sl 1 u (nums s))])] := by
  intro m
  induction m with
  | zero =>
    intro k lo hi hk h0 h1 h2 hr
    rw [List.drop_of_length_le (by omega), List.drop_of_length_le (by omega)] at hr
    exact rvalid_h0_5 n o d s t u k lo hi (by simp; omega) hr.symm
  | succ m ih =>
    intro k lo hi hk h0 h1 h2 hr
    have hlt : k < d.length := by omega
    have hlt2 : k < s.length := by omega
    have e := nums_at' hlt
    have e2 := nums_at' hlt2
    have hdk := hd k hlt
    have e3 : (((nums d).getD (k : Int).toNat default).cells.getD 0 default).asInt = d[k] := by rw [e]; rfl
    have e4 : (((nums s).getD (k : Int).toNat default).cells.getD 0 default).asInt = s[k] := by rw [e2]; rfl
    rw [List.drop_eq_getElem_cons hlt, List.drop_eq_getElem_cons hlt2, vldL] at hr
    by_cases hone : d[k] = 1
    · simp only [hone, beq_self_eq_true, cond_true] at hr
      refine rvalid_h0_0 n o d s t u k lo hi (by simp; omega) (by simp; omega) (by rw [e]; rfl) (by rw [e3, hone]; rfl) ?_
      rw [next (by omega)]
      exact ih (k + 1) lo hi (by omega) h0 h1 h2 hr
    · have h1b : (d[k] == 1) = false := by simpa using hone
      obtain ⟨w1, w2, w3⟩ := vld_nums (n := n) (d := d[k]) (lo := lo) (hi := hi) hn (by omega) h0 h1 h2
      have t1 := tdiv_in (a := d[k] - 1) (b := n - 1 - hi) (by omega) (by omega)
      have t2 := tdiv_in (a := d[k] - 1) (b := lo) h0 (by omega)
      have hne : (IntKind.i64.wrap ((((nums d).getD (k : Int).toNat default).cells.getD 0 default).asInt - 1) != 0) = true := by rw [e3, w1]; simp; omega
      have hne2 : (IntKind.i64.wrap ((((nums d).getD (k : Int).toNat default).cells.getD 0 default).asInt - 1) == 0) = false := by rw [e3, w1]; simp; omega
      rw [h1b, cond_false] at hr
      by_cases hp : s[k] ≥ 0
      · simp only [hp, decide_true, cond_true] at hr
        by_cases hq : s[k] > (n - 1 - hi).tdiv (d[k] - 1)
        · simp only [hq, decide_true, cond_true] at hr
          exact rvalid_h0_1 n o d s t u k lo hi (by simp; omega) (by simp; omega) (by rw [e]; rfl) hne2 (by simp; omega) (by rw [e2]; rfl) hne (by rw [e3, e4, w1, w2]; simpa using hq) hr.symm
        · simp only [hq, decide_false, cond_false] at hr
          obtain ⟨v1, v2, v3⟩ := vld_up (n := n) (d := d[k]) (lo := lo) (hi := hi) hn (by omega) h0 h1 h2 hp hq
          refine rvalid_h0_4 n o d s t u k lo hi (by simp; omega) (by simp; omega) (by rw [e]; rfl) hne2 (by simp; omega) (by rw [e2]; rfl) hne (by rw [e3, e4, w1, w2]; simpa using hq) (by rw [e3, e4, w1, w3]; simp; omega) (by rw [e4]; simp; omega) ?_
          rw [next (by omega), e3, e4, w1, v1]
          exact ih (k + 1) lo _ (by omega) h0 v2 v3 hr
      · simp only [hp, decide_false, cond_false] at hr
        have hq0 : ¬ s[k] > (n - 1 - hi).tdiv (d[k] - 1) := by omega
        by_cases hq : s[k] < -(lo.tdiv (d[k] - 1))
        · simp only [hq, decide_true, cond_true] at hr
          exact rvalid_h0_2 n o d s t u k lo hi (by simp; omega) (by simp; omega) (by rw [e]; rfl) hne2 (by simp; omega) (by rw [e2]; rfl) hne (by rw [e3, e4, w1, w2]; simpa using hq0) (by rw [e3, e4, w1, w3]; simpa using hq) hr.symm
        · simp only [hq, decide_false, cond_false] at hr
          obtain ⟨v1, v2, v3⟩ := vld_down (n := n) (d := d[k]) (lo := lo) (hi := hi) hn (by omega) h0 h1 h2 (by omega) hq
          refine rvalid_h0_3 n o d s t u k lo hi (by simp; omega) (by simp; omega) (by rw [e]; rfl) hne2 (by simp; omega) (by rw [e2]; rfl) hne (by rw [e3, e4, w1, w2]; simpa using hq0) (by rw [e3, e4, w1, w3]; simpa using hq) (by rw [e4]; simp; omega) ?_
          rw [next (by omega), e3, e4, w1, v1]
          exact ih (k + 1) _ hi (by omega) v2 v3 h2 hr
theorem prodB_pos : ∀ {l : List Int} {p n : Int}, 1 ≤ p → (∀ x ∈ l, 1 ≤ x) → prodB p l = some n → 1 ≤ n := by
  intro l
  induction l with
  | nil => intro p n hp _ h; simp [prodB] at h; omega
  | cons d l ih =>
    intro p n hp hl h
    simp only [prodB] at h
    by_cases hb : 4096 < p * d
    · simp [hb] at h
    · simp only [hb, decide_false, cond_false] at h
      have hd := hl d (List.mem_cons_self ..)
      have : 1 * 1 ≤ p * d := Int.mul_le_mul hp hd (by omega) (by omega)
      exact ih (by omega) (fun x hx => hl x (List.mem_cons_of_mem _ hx)) h
theorem dims_pos {d : List Int} (ha : d.all dimB = true) (hz : d.any (· == 0) = false) : ∀ x ∈ d, 1 ≤ x ∧ x ≤ 4096 := by
  intro x hx
  have h1 := List.all_eq_true.1 ha x hx
  have h2 : x ≠ 0 := by
    intro e
    have : d.any (· == 0) = true := by rw [List.any_eq_true]; exact ⟨x, hx, by simp [e]⟩
    rw [hz] at this; cases this
  simp [dimB] at h1
  omega
theorem size_zero {d : List Int} (h : ((sizeB d).2 != 0) = false) : ((sizeB d).1 == 0) = d.any (· == 0) := by
  obtain ⟨h6, ha⟩ := sizeB_ok h
  cases hz : d.any (· == 0) with
  | true => simp [sizeB, ha, hz, Nat.not_lt.2 h6]
  | false =>
    simp only [sizeB, ha, hz, Nat.not_lt.2 h6, decide_false, cond_false, cond_true] at h ⊢
    cases hp : prodB 1 d with
    | none => rw [hp] at h; simp at h
    | some n =>
      have := prodB_pos (by omega) (fun x hx => (dims_pos ha hz x hx).1) hp
      simp; omega
def validB (n o : Int) (d s : List Int) : Bool := formB d s && (d.any (· == 0) || (!decide (o < 0) && (!decide (o ≥ n) && vldL n d s o o)))
def val_valid : List PV → PV
  | [q, p] => .bool (validB q.asInt p.vO p.vD p.vS)
  | _ => .nilp
def pre_valid : List PV → Bool
  | [.int .i64 n, p] => decide (n ≤ 9223372036854775807) && pre_view p
  | _ => false
theorem valid_run : ∀ ps, pre_valid ps = true → Gets T_valid 0 (fun st => fin st rs_valid = some (val_valid ps)) ic_valid [] (st0 nt_valid ps) := by
  intro ps hp
  unfold pre_valid at hp
  split at hp
  · rename_i n p
    simp only [Bool.and_eq_true, decide_eq_true_eq] at hp
    have hpv := hp.2
    obtain ⟨o, d, s, t, u, rfl, h1, h2⟩ := view_of hp.2
    have hv : val_valid [.int .i64 n, vw o d s t u] = .bool (validB n o d s) := by simp only [val_valid, vw_O, vw_D, vw_S, PV.asInt]
    rw [hv]
    have hc' : d.length ≤ 6 → pre_contains [.sl 1 t (nums d), .int .i64 0] = true := by intro h; simp [pre_contains]; omega
    cases hf : formB d s with
    | false => exact valid_s_0 n o d s t u hpv (by simp [hf]) (by simp [validB, hf])
    | true =>
      have hc := hc' (by
        have hf' : ((sizeB d).2 != 0) = false ∧ s.length = d.length := by simpa [formB, bne] using hf
        exact (sizeB_ok hf'.1).1)
      cases hz : d.any (· == 0) with
      | true => exact valid_s_1 n o d s t u hpv (by simp [hf]) hc (by rw [any_nums]; exact hz) (by simp [validB, hf, hz])
      | false =>
        have hz' : ((nums d).any fun x => x.asInt == 0) = false := by rw [any_nums]; exact hz
        by_cases ho : o < 0
        · exact valid_s_2 n o d s t u hpv (by simp [hf]) hc hz' (by simpa using ho) (by simp [validB, hf, hz, ho])
        · by_cases hn : o ≥ n
          · exact valid_s_3 n o d s t u hpv (by simp [hf]) hc hz' (by simpa using ho) (by simpa using hn) (by simp [validB, hf, hz, hn])
          · refine valid_s_4 n o d s t u hpv (by simp [hf]) hc hz' (by simpa using ho) (by simpa using hn) ?_
            have hf' : ((sizeB d).2 != 0) = false ∧ s.length = d.length := by simpa [formB, bne] using hf
            obtain ⟨h6, ha⟩ := sizeB_ok hf'.1
            exact valid_loop n o d s t u hp.1 h6 hf'.2 (fun j hj => dims_pos ha hz _ (List.getElem_mem hj)) d.length 0 o o (by omega) (by omega) (by omega) (by omega) (by simp only [validB, hf, hz, ho, hn, decide_false, Bool.not_false, Bool.true_and, Bool.false_or, List.drop_zero])
  · cases hp
theorem rvalid_run : ∀ ps, pre_valid ps = true → Gets T_rvalid 0 (fun st => fin st rs_rvalid = some (val_valid ps)) ic_rvalid [] (st0 nt_rvalid ps) := by
  intro ps hp
  unfold pre_valid at hp
  split at hp
  · rename_i n p
    simp only [Bool.and_eq_true, decide_eq_true_eq] at hp
    have hpv := hp.2
    obtain ⟨o, d, s, t, u, rfl, h1, h2⟩ := view_of hp.2
    have hv : val_valid [.int .i64 n, vw o d s t u] = .bool (validB n o d s) := by simp only [val_valid, vw_O, vw_D, vw_S, PV.asInt]
    rw [hv]
    cases hf : formB d s with
    | false => exact rvalid_s_0 n o d s t u hpv (by simp [hf]) (by simp [validB, hf])
    | true =>
      have hf' : ((sizeB d).2 != 0) = false ∧ s.length = d.length := by simpa [formB, bne] using hf
      have hsz := size_zero hf'.1
      cases hz : d.any (· == 0) with
      | true => exact rvalid_s_1 n o d s t u hpv (by simp [hf]) (by simp [pre_size]) (by rw [asInt_nums, hsz]; exact hz) (by simp [validB, hf, hz])
      | false =>
        have hz' : ((sizeB (List.map PV.asInt (nums d))).fst == 0) = false := by rw [asInt_nums, hsz]; exact hz
        by_cases ho : o < 0
        · exact rvalid_s_2 n o d s t u hpv (by simp [hf]) (by simp [pre_size]) hz' (by simpa using ho) (by simp [validB, hf, hz, ho])
        · by_cases hn : o ≥ n
          · exact rvalid_s_3 n o d s t u hpv (by simp [hf]) (by simp [pre_size]) hz' (by simpa using ho) (by simpa using hn) (by simp [validB, hf, hz, hn])
          · refine rvalid_s_4 n o d s t u hpv (by simp [hf]) (by simp [pre_size]) hz' (by simpa using ho) (by simpa using hn) ?_
            obtain ⟨h6, ha⟩ := sizeB_ok hf'.1
            exact rvalid_loop n o d s t u hp.1 h6 hf'.2 (fun j hj => dims_pos ha hz _ (List.getElem_mem hj)) d.length 0 o o (by omega) (by omega) (by omega) (by omega) (by simp only [validB, hf, hz, ho, hn, decide_false, Bool.not_false, Bool.true_and, Bool.false_or, List.drop_zero])
  · cases hp
end Go.Pl

namespace Go.Pl
open Go.RowKit
set_option maxRecDepth 100000
def ic_put : IC := (.reg [⟨(some 6), (.mv (.t 0)), 0, none⟩, ⟨(some 7), (.mv (.t 0)), 0, none⟩, ⟨(some 8), (.mv (.t 0)), 0, none⟩, ⟨(some 9), (.nilchk (.t 8)), 0, none⟩, ⟨(some 10), (.faddr 1 (.t 9)), 0, none⟩, ⟨(some 11), (.load false [(.sl 1)] (.t 10)), 0, none⟩, ⟨(some 12), (.mv (.t 1)), 0, none⟩, ⟨(some 13), (.bslice 3 1 1 (.int .i64 0) [(0, (.t 12))]), 0, none⟩, ⟨(some 14), (.append 3 1 8 (.t 11) (.t 13)), 1, none⟩, ⟨(some 15), (.mv (.t 0)), 2, none⟩, ⟨(some 16), (.nilchk (.t 15)), 2, none⟩, ⟨(some 17), (.faddr 2 (.t 16)), 2, none⟩, ⟨(some 18), (.load false [(.sl 1)] (.t 17)), 2, none⟩, ⟨(some 19), (.mv (.t 2)), 2, none⟩, ⟨(some 20), (.bslice 3 1 1 (.int .i64 0) [(0, (.t 19))]), 2, none⟩, ⟨(some 21), (.append 3 1 8 (.t 18) (.t 20)), 3, none⟩, ⟨(some 22), (.nilchk (.t 6)), 4, none⟩, ⟨(some 23), (.faddr 1 (.t 22)), 4, none⟩, ⟨none, (.store 1 (.t 23) (.t 14)), 4, none⟩, ⟨(some 24), (.nilchk (.t 7)), 4, none⟩, ⟨(some 25), (.faddr 2 (.t 24)), 4, none⟩, ⟨none, (.store 1 (.t 25) (.t 21)), 4, none⟩] (some [[], [], [], [2], [3, 2], [4, 3, 2], [], [6], [5, 7, 4, 3, 2, 6], [], [9], [10, 9], [11, 10, 9], [], [13], [12, 14, 8, 11, 10, 9, 13, 5, 7, 4, 3, 2, 6], [0, 2, 3, 4, 5, 6, 7, 8, 12, 15, 11, 10, 9, 14, 13], [16, 0, 2, 3, 4, 5, 6, 7, 8, 12, 15, 11, 10, 9, 14, 13], [17, 8, 15, 0, 2, 3, 4, 5, 6, 7, 12, 16, 11, 10, 9, 14, 13], [1, 0, 2, 3, 4, 5, 6, 7, 8, 9, 10, 11, 12, 13, 14, 15, 16, 17, 18], [19, 0, 1, 2, 3, 4, 5, 6, 7, 8, 9, 10, 11, 12, 13, 14, 15, 16, 17, 18], [20, 15, 18, 0, 1, 2, 3, 4, 5, 6, 7, 8, 9, 10, 11, 12, 13, 14, 16, 17, 19]]))
def rs_put : List IRes := []
abbrev nt_put : Nat := 26
def T_put : Tab := tab []
theorem put_s_0 {r : AV × List AObj × List AObj} (o n m : Int) (d s : List Int) (h0 : ((nums d).length == d.length && d.length == d.length && decide ((d.length + (List.drop 0 (List.take 1 [PV.int .i64 n])).length) * 8 ≤ 1099511627776) && decide (d.length + (List.drop 0 (List.take 1 [PV.int .i64 n])).length ≤ 1099511627776)) = true) (h1 : ((nums s).length == s.length && s.length == s.length && decide ((s.length + (List.drop 0 (List.take 1 [PV.int .i64 m])).length) * 8 ≤ 1099511627776) && decide (s.length + (List.drop 0 (List.take 1 [PV.int .i64 m])).length ≤ 1099511627776)) = true) (hr : ((.tup []), ([(.box [(.pv (.int .i64 o)), (.row 1 (d.length + (List.drop 0 (List.take 1 [PV.int .i64 n])).length) 0 (d.length + (List.drop 0 (List.take 1 [PV.int .i64 n])).length)), (.row 2 (s.length + (List.drop 0 (List.take 1 [PV.int .i64 m])).length) 0 (s.length + (List.drop 0 (List.take 1 [PV.int .i64 m])).length))]), (.row false 3 1 (nums d ++ List.drop 0 (List.take 1 [PV.int .i64 n]))), (.row false 3 1 (nums s ++ List.drop 0 (List.take 1 [PV.int .i64 m])))], [])) = r) : Gets T_put 3 (fun st => finO 3 st rs_put = some r) ic_put [] (st0O 26 [.ptr 0 0, .pv (.int .i64 n), .pv (.int .i64 m)] [.box [.pv (.int .i64 o), .row 1 d.length 0 d.length, .row 2 s.length 0 s.length], .row false 3 1 (nums d), .row false 3 1 (nums s)]) := Gets.wo (.lit (.lit (.req (.lit (.lit (.req (.nil))))))) (And.intro h0 (And.intro h1 hr)) (by kernel_rfl)
end Go.Pl

namespace Go.Pl
open Go.RowKit
def val_copyo : List AV → List AObj → AV × List AObj × List AObj
  | [.pv (.sl _ _ xs)], _ => (.row 0 xs.length 0 xs.length, [], [.row false 3 1 xs])
  | _, _ => (.junk, [], [])
def pre_put : List AV → List AObj → Bool
  | [.ptr 0 0, .pv (.int .i64 _), .pv (.int .i64 _)], [.box [.pv (.int .i64 _), .row 1 a 0 a', .row 2 b 0 b'], .row false 3 1 xs, .row false 3 1 ys] =>
    xs.all PV.isNum && ys.all PV.isNum && decide (a = xs.length) && decide (a' = xs.length) && decide (b = ys.length) && decide (b' = ys.length) && decide (xs.length ≤ 1000000) && decide (ys.length ≤ 1000000)
  | _, _ => false
def val_put : List AV → List AObj → AV × List AObj × List AObj
  | [_, .pv n, .pv m], [.box [o, _, _], .row _ _ _ xs, .row _ _ _ ys] =>
    (.tup [], [.box [o, .row 1 (xs.length + 1) 0 (xs.length + 1), .row 2 (ys.length + 1) 0 (ys.length + 1)], .row false 3 1 (xs ++ [n]), .row false 3 1 (ys ++ [m])], [])
  | _, _ => (.junk, [], [])
theorem put_run : ∀ args os, pre_put args os = true → Gets T_put os.length (fun st => finO os.length st rs_put = some (val_put args os)) ic_put [] (st0O nt_put args os) := by
  intro args os hp
  unfold pre_put at hp
  split at hp
  · rename_i n m o a a' b b' xs ys
    simp only [Bool.and_eq_true, decide_eq_true_eq] at hp
    obtain ⟨⟨⟨⟨⟨⟨⟨h1, h2⟩, rfl⟩, rfl⟩, rfl⟩, rfl⟩, h3⟩, h4⟩ := hp
    obtain ⟨d, rfl⟩ := nums_of h1
    obtain ⟨s, rfl⟩ := nums_of h2
    rw [nums_length] at h3 h4 ⊢
    rw [nums_length]
    refine put_s_0 o n m d s (by simp; omega) (by simp; omega) ?_
    simp [val_put]
  · cases hp
end Go.Pl

namespace Go.Pl
open Go.RowKit
set_option maxRecDepth 100000
def ic_wind1 : IC := (.seq (.reg [⟨(some 7), (.mv (.c (.int .i64 0))), 0, none⟩] none) (.seq (.seq (.reg [⟨(some 8), (.load false [(.int .i64)] (.t 3)), 0, none⟩, ⟨(some 9), (.bin .num .lss (.t 8) (.c (.int .i64 0))), 0, none⟩, ⟨(some 10), (.mv (.t 9)), 0, none⟩, ⟨(some 11), (.load false [(.int .i64)] (.t 3)), 0, (some (10, false))⟩, ⟨(some 12), (.mv (.t 1)), 0, (some (10, false))⟩, ⟨(some 13), (.iaddr 1 (.t 12) (.c (.int .i64 0))), 0, (some (10, false))⟩, ⟨(some 14), (.load false [(.int .i64)] (.t 13)), 0, (some (10, false))⟩, ⟨(some 15), (.bin .num .gtr (.t 11) (.t 14)), 0, (some (10, false))⟩, ⟨(some 16), (.pick (.t 10) (.c (.bool true)) (.t 15)), 0, none⟩] (some [[], [0], [1, 0], [2, 1, 0], [2, 1, 0], [4, 2, 1, 0], [5, 2, 4, 1, 0], [3, 6, 2, 1, 0, 5, 4], [2, 7, 1, 0, 3, 6, 5, 4]])) (.cond (.t 16) (.seq (.reg [⟨(some 7), (.mv (.c (.int .i64 2))), 0, none⟩] none) .ret) .skip)) (.seq (.reg [⟨(some 17), (.mv (.t 0)), 0, none⟩, ⟨(some 18), (.mv (.t 1)), 0, none⟩, ⟨(some 19), (.iaddr 1 (.t 18) (.c (.int .i64 0))), 0, none⟩, ⟨(some 20), (.load false [(.int .i64)] (.t 19)), 0, none⟩, ⟨(some 21), (.load false [(.int .i64)] (.t 3)), 0, none⟩, ⟨(some 22), (.bin .num .sub (.t 20) (.t 21)), 0, none⟩, ⟨(some 23), (.bin .num .add (.t 22) (.c (.int .i64 1))), 0, none⟩, ⟨(some 24), (.mv (.t 2)), 0, none⟩, ⟨(some 25), (.iaddr 1 (.t 24) (.c (.int .i64 0))), 0, none⟩, ⟨(some 26), (.load false [(.int .i64)] (.t 25)), 0, none⟩, ⟨(some 27), (.call (.c (.fn 89)) [(.t 17), (.t 23), (.t 26)]), 0, none⟩] (some [[], [], [1], [2, 1], [], [3, 4, 2, 1], [5, 3, 4, 2, 1], [], [7], [8, 7], [0, 6, 9, 5, 3, 4, 2, 1, 8, 7]])) (.seq (.reg [⟨(some 28), (.mv (.t 0)), 0, none⟩, ⟨(some 29), (.load false [(.int .i64)] (.t 3)), 0, none⟩, ⟨(some 30), (.mv (.t 2)), 0, none⟩, ⟨(some 31), (.iaddr 1 (.t 30) (.c (.int .i64 0))), 0, none⟩, ⟨(some 32), (.load false [(.int .i64)] (.t 31)), 0, none⟩, ⟨(some 33), (.call (.c (.fn 89)) [(.t 28), (.t 29), (.t 32)]), 0, none⟩] (some [[], [], [], [2], [3, 2], [0, 1, 4, 3, 2]])) (.seq (.reg [⟨(some 7), (.mv (.c (.int .i64 0))), 0, none⟩] none) .ret)))))
def rs_wind1 : List IRes := [(.tmp 7)]
abbrev nt_wind1 : Nat := 34
def T_wind1 : Tab := tab [(89, .own pre_put val_put)]
theorem wind1_s_0 {r : AV × List AObj × List AObj} (o : Int) (d s ns ms : List Int) (t u : Bool) (k : Int) (h0 : (decide (k < 0)) = true) (hr : ((.pv (.int .i64 2)), ([(.box [(.pv (.int .i64 o)), (.row 2 d.length 0 d.length), (.row 3 s.length 0 s.length)]), (.box [(.pv (.int .i64 k))]), (.row false 3 1 (nums d)), (.row false 3 1 (nums s))], [])) = r) : Gets T_wind1 4 (fun st => finO 4 st rs_wind1 = some r) ic_wind1 [] (st0O 34 [.ptr 0 0, .pv (.sl 1 t (nums ns)), .pv (.sl 1 u (nums ms)), .ptr 1 0] [.box [.pv (.int .i64 o), .row 2 d.length 0 d.length, .row 3 s.length 0 s.length], .box [.pv (.int .i64 k)], .row false 3 1 (nums d), .row false 3 1 (nums s)]) := Gets.wo (.lit (.ans true (.lit (.lit (.lit (.lit (.lit (.lit (.nil))))))))) (And.intro h0 hr) (by kernel_rfl)
theorem wind1_s_1 {r : AV × List AObj × List AObj} (o : Int) (d s ns ms : List Int) (t u : Bool) (k : Int) (h0 : (decide (k < 0)) = false) (h1 : (decide (0 ≤ 0) && decide (Int.toNat 0 < (nums ns).length) && 1 == 1) = true) (h2 : (decide (0 + [Sh.int .i64].length ≤ ((nums ns).getD (Int.toNat 0) default).cells.length) && shFit ((nums ns).getD (Int.toNat 0) default).cells 0 [Sh.int .i64]) = true) (h3 : (decide (k > (((nums ns).getD (Int.toNat 0) default).cells.getD 0 default).asInt)) = true) (hr : ((.pv (.int .i64 2)), ([(.box [(.pv (.int .i64 o)), (.row 2 d.length 0 d.length), (.row 3 s.length 0 s.length)]), (.box [(.pv (.int .i64 k))]), (.row false 3 1 (nums d)), (.row false 3 1 (nums s))], [])) = r) : Gets T_wind1 4 (fun st => finO 4 st rs_wind1 = some r) ic_wind1 [] (st0O 34 [.ptr 0 0, .pv (.sl 1 t (nums ns)), .pv (.sl 1 u (nums ms)), .ptr 1 0] [.box [.pv (.int .i64 o), .row 2 d.length 0 d.length, .row 3 s.length 0 s.length], .box [.pv (.int .i64 k)], .row false 3 1 (nums d), .row false 3 1 (nums s)]) := Gets.wo (.lit (.ans false (.lit (.lit (.req (.lit (.req (.lit (.lit (.lit (.ans true (.nil)))))))))))) (And.intro h0 (And.intro h1 (And.intro h2 (And.intro h3 hr)))) (by kernel_rfl)
theorem wind1_s_2 {r : AV × List AObj × List AObj} (o : Int) (d s ns ms : List Int) (t u : Bool) (k : Int) (h0 : (decide (k < 0)) = false) (h1 : (decide (0 ≤ 0) && decide (Int.toNat 0 < (nums ns).length) && 1 == 1) = true) (h2 : (decide (0 + [Sh.int .i64].length ≤ ((nums ns).getD (Int.toNat 0) default).cells.length) && shFit ((nums ns).getD (Int.toNat 0) default).cells 0 [Sh.int .i64]) = true) (h3 : (decide (k > (((nums ns).getD (Int.toNat 0) default).cells.getD 0 default).asInt)) = false) (h4 : (decide (0 ≤ 0) && decide (Int.toNat 0 < (nums ms).length) && 1 == 1) = true) (h5 : (decide (0 + [Sh.int .i64].length ≤ ((nums ms).getD (Int.toNat 0) default).cells.length) && shFit ((nums ms).getD (Int.toNat 0) default).cells 0 [Sh.int .i64]) = true) (h6 : (pre_put [(.ptr 0 0), (.pv (.int .i64 (IntKind.i64.wrap (IntKind.i64.wrap ((((nums ns).getD (Int.toNat 0) default).cells.getD 0 default).asInt - k) + 1)))), (.pv (.int .i64 ((((nums ms).getD (Int.toNat 0) default).cells.getD 0 default).asInt)))] [(.box [(.pv (.int .i64 o)), (.row 1 d.length 0 d.length), (.row 2 s.length 0 s.length)]), (.row false 3 1 (nums d)), (.row false 3 1 (nums s))]) = true) (h7 : (pre_put [(.ptr 0 0), (.pv (.int .i64 k)), (.pv (.int .i64 ((((nums ms).getD (Int.toNat 0) default).cells.getD 0 default).asInt)))] [(.box [(.pv (.int .i64 o)), (.row 1 ((nums d).length + 1) 0 ((nums d).length + 1)), (.row 2 ((nums s).length + 1) 0 ((nums s).length + 1))]), (.row false 3 1 (nums d ++ [PV.int .i64 (IntKind.i64.wrap (IntKind.i64.wrap ((((nums ns).getD (Int.toNat 0) default).cells.getD 0 default).asInt - k) + 1))])), (.row false 3 1 (nums s ++ [(Sh.int .i64).co (((nums ms).getD (Int.toNat 0) default).cells.getD 0 default)]))]) = true) (hr : ((.pv (.int .i64 0)), ([(.box [(.pv (.int .i64 o)), (.row 2 ((nums d ++ [PV.int .i64 (IntKind.i64.wrap (IntKind.i64.wrap ((((nums ns).getD (Int.toNat 0) default).cells.getD 0 default).asInt - k) + 1))]).length + 1) 0 ((nums d ++ [PV.int .i64 (IntKind.i64.wrap (IntKind.i64.wrap ((((nums ns).getD (Int.toNat 0) default).cells.getD 0 default).asInt - k) + 1))]).length + 1)), (.row 3 ((nums s ++ [(Sh.int .i64).co (((nums ms).getD (Int.toNat 0) default).cells.getD 0 default)]).length + 1) 0 ((nums s ++ [(Sh.int .i64).co (((nums ms).getD (Int.toNat 0) default).cells.getD 0 default)]).length + 1))]), (.box [(.pv (.int .i64 k))]), (.row false 3 1 (nums d ++ [PV.int .i64 (IntKind.i64.wrap (IntKind.i64.wrap ((((nums ns).getD (Int.toNat 0) default).cells.getD 0 default).asInt - k) + 1))] ++ [PV.int .i64 k])), (.row false 3 1 (nums s ++ [(Sh.int .i64).co (((nums ms).getD (Int.toNat 0) default).cells.getD 0 default)] ++ [(Sh.int .i64).co (((nums ms).getD (Int.toNat 0) default).cells.getD 0 default)]))], [])) = r) : Gets T_wind1 4 (fun st => finO 4 st rs_wind1 = some r) ic_wind1 [] (st0O 34 [.ptr 0 0, .pv (.sl 1 t (nums ns)), .pv (.sl 1 u (nums ms)), .ptr 1 0] [.box [.pv (.int .i64 o), .row 2 d.length 0 d.length, .row 3 s.length 0 s.length], .box [.pv (.int .i64 k)], .row false 3 1 (nums d), .row false 3 1 (nums s)]) := Gets.wo (.lit (.ans false (.lit (.lit (.req (.lit (.req (.lit (.lit (.lit (.ans false (.req (.req (.lit (.lit (.req (.req (.req (.req (.req (.req (.nil)))))))))))))))))))))) (And.intro h0 (And.intro h1 (And.intro h2 (And.intro h3 (And.intro h1 (And.intro h2 (And.intro h4 (And.intro h5 (And.intro h6 (And.intro h4 (And.intro h5 (And.intro h7 hr)))))))))))) (by kernel_rfl)
def ic_tran1 : IC := (.seq (.reg [⟨(some 6), (.mv (.c (.int .i64 0))), 0, none⟩] none) (.seq (.reg [⟨(some 7), (.mv (.t 0)), 0, none⟩, ⟨(some 8), (.mv (.t 1)), 0, none⟩, ⟨(some 9), (.iaddr 1 (.t 8) (.c (.int .i64 1))), 0, none⟩, ⟨(some 10), (.load false [(.int .i64)] (.t 9)), 0, none⟩, ⟨(some 11), (.mv (.t 2)), 0, none⟩, ⟨(some 12), (.iaddr 1 (.t 11) (.c (.int .i64 1))), 0, none⟩, ⟨(some 13), (.load false [(.int .i64)] (.t 12)), 0, none⟩, ⟨(some 14), (.call (.c (.fn 89)) [(.t 7), (.t 10), (.t 13)]), 0, none⟩] (some [[], [], [1], [2, 1], [], [4], [5, 4], [0, 3, 6, 2, 1, 5, 4]])) (.seq (.reg [⟨(some 15), (.mv (.t 0)), 0, none⟩, ⟨(some 16), (.mv (.t 1)), 0, none⟩, ⟨(some 17), (.iaddr 1 (.t 16) (.c (.int .i64 0))), 0, none⟩, ⟨(some 18), (.load false [(.int .i64)] (.t 17)), 0, none⟩, ⟨(some 19), (.mv (.t 2)), 0, none⟩, ⟨(some 20), (.iaddr 1 (.t 19) (.c (.int .i64 0))), 0, none⟩, ⟨(some 21), (.load false [(.int .i64)] (.t 20)), 0, none⟩, ⟨(some 22), (.call (.c (.fn 89)) [(.t 15), (.t 18), (.t 21)]), 0, none⟩] (some [[], [], [1], [2, 1], [], [4], [5, 4], [0, 3, 6, 2, 1, 5, 4]])) (.seq (.reg [⟨(some 6), (.mv (.c (.int .i64 0))), 0, none⟩] none) .ret))))
def rs_tran1 : List IRes := [(.tmp 6)]
abbrev nt_tran1 : Nat := 23
def T_tran1 : Tab := tab [(89, .own pre_put val_put)]
theorem tran1_s_0 {r : AV × List AObj × List AObj} (o : Int) (d s ns ms : List Int) (t u : Bool) (h0 : (decide (0 ≤ 1) && decide (Int.toNat 1 < (nums ns).length) && 1 == 1) = true) (h1 : (decide (0 + [Sh.int .i64].length ≤ ((nums ns).getD (Int.toNat 1) default).cells.length) && shFit ((nums ns).getD (Int.toNat 1) default).cells 0 [Sh.int .i64]) = true) (h2 : (decide (0 ≤ 1) && decide (Int.toNat 1 < (nums ms).length) && 1 == 1) = true) (h3 : (decide (0 + [Sh.int .i64].length ≤ ((nums ms).getD (Int.toNat 1) default).cells.length) && shFit ((nums ms).getD (Int.toNat 1) default).cells 0 [Sh.int .i64]) = true) (h4 : (pre_put [(.ptr 0 0), (.pv (.int .i64 ((((nums ns).getD (Int.toNat 1) default).cells.getD 0 default).asInt))), (.pv (.int .i64 ((((nums ms).getD (Int.toNat 1) default).cells.getD 0 default).asInt)))] [(.box [(.pv (.int .i64 o)), (.row 1 d.length 0 d.length), (.row 2 s.length 0 s.length)]), (.row false 3 1 (nums d)), (.row false 3 1 (nums s))]) = true) (h5 : (decide (0 ≤ 0) && decide (Int.toNat 0 < (nums ns).length) && 1 == 1) = true) (h6 : (decide (0 + [Sh.int .i64].length ≤ ((nums ns).getD (Int.toNat 0) default).cells.length) && shFit ((nums ns).getD (Int.toNat 0) default).cells 0 [Sh.int .i64]) = true) (h7 : (decide (0 ≤ 0) && decide (Int.toNat 0 < (nums ms).length) && 1 == 1) = true) (h8 : (decide (0 + [Sh.int .i64].length ≤ ((nums ms).getD (Int.toNat 0) default).cells.length) && shFit ((nums ms).getD (Int.toNat 0) default).cells 0 [Sh.int .i64]) = true) (h9 : (pre_put [(.ptr 0 0), (.pv (.int .i64 ((((nums ns).getD (Int.toNat 0) default).cells.getD 0 default).asInt))), (.pv (.int .i64 ((((nums ms).getD (Int.toNat 0) default).cells.getD 0 default).asInt)))] [(.box [(.pv (.int .i64 o)), (.row 1 ((nums d).length + 1) 0 ((nums d).length + 1)), (.row 2 ((nums s).length + 1) 0 ((nums s).length + 1))]), (.row false 3 1 (nums d ++ [(Sh.int .i64).co (((nums ns).getD (Int.toNat 1) default).cells.getD 0 default)])), (.row false 3 1 (nums s ++ [(Sh.int .i64).co (((nums ms).getD (Int.toNat 1) default).cells.getD 0 default)]))]) = true) (hr : ((.pv (.int .i64 0)), ([(.box [(.pv (.int .i64 o)), (.row 1 ((nums d ++ [(Sh.int .i64).co (((nums ns).getD (Int.toNat 1) default).cells.getD 0 default)]).length + 1) 0 ((nums d ++ [(Sh.int .i64).co (((nums ns).getD (Int.toNat 1) default).cells.getD 0 default)]).length + 1)), (.row 2 ((nums s ++ [(Sh.int .i64).co (((nums ms).getD (Int.toNat 1) default).cells.getD 0 default)]).length + 1) 0 ((nums s ++ [(Sh.int .i64).co (((nums ms).getD (Int.toNat 1) default).cells.getD 0 default)]).length + 1))]), (.row false 3 1 (nums d ++ [(Sh.int .i64).co (((nums ns).getD (Int.toNat 1) default).cells.getD 0 default)] ++ [(Sh.int .i64).co (((nums ns).getD (Int.toNat 0) default).cells.getD 0 default)])), (.row false 3 1 (nums s ++ [(Sh.int .i64).co (((nums ms).getD (Int.toNat 1) default).cells.getD 0 default)] ++ [(Sh.int .i64).co (((nums ms).getD (Int.toNat 0) default).cells.getD 0 default)]))], [])) = r) : Gets T_tran1 3 (fun st => finO 3 st rs_tran1 = some r) ic_tran1 [] (st0O 23 [.ptr 0 0, .pv (.sl 1 t (nums ns)), .pv (.sl 1 u (nums ms))] [.box [.pv (.int .i64 o), .row 1 d.length 0 d.length, .row 2 s.length 0 s.length], .row false 3 1 (nums d), .row false 3 1 (nums s)]) := Gets.wo (.req (.req (.req (.req (.req (.req (.req (.req (.req (.req (.nil))))))))))) (And.intro h0 (And.intro h1 (And.intro h2 (And.intro h3 (And.intro h4 (And.intro h5 (And.intro h6 (And.intro h7 (And.intro h8 (And.intro h9 hr)))))))))) (by kernel_rfl)
end Go.Pl

namespace Go.Pl
open Go.RowKit
structure CA where
  o : Int
  d : List Int
  s : List Int
  ns : List Int
  ms : List Int
  k : Int
def okA (rk : Nat) (xs ys ns ms : List PV) (a a' b b' : Nat) : Bool :=
  xs.all PV.isNum && ys.all PV.isNum && ns.all PV.isNum && ms.all PV.isNum && decide (a = xs.length) && decide (a' = xs.length) && decide (b = ys.length) && decide (b' = ys.length) && decide (xs.length ≤ 10000) && decide (ys.length ≤ 10000) && decide (ns.length = rk) && decide (ms.length = rk)
def dec1 (rk : Nat) : List AV → List AObj → Option CA
  | [.ptr 0 0, .pv (.sl 1 _ ns), .pv (.sl 1 _ ms), .ptr 1 0], [.box [.pv (.int .i64 o), .row 2 a 0 a', .row 3 b 0 b'], .box [.pv (.int .i64 k)], .row false 3 1 xs, .row false 3 1 ys] =>
    bif okA rk xs ys ns ms a a' b b' then some ⟨o, xs.map PV.asInt, ys.map PV.asInt, ns.map PV.asInt, ms.map PV.asInt, k⟩ else none
  | _, _ => none
theorem dec1_ok {rk : Nat} {args : List AV} {os : List AObj} {c : CA} (h : dec1 rk args os = some c) : ∃ t u, args = [.ptr 0 0, .pv (.sl 1 t (nums c.ns)), .pv (.sl 1 u (nums c.ms)), .ptr 1 0] ∧
    os = [.box [.pv (.int .i64 c.o), .row 2 c.d.length 0 c.d.length, .row 3 c.s.length 0 c.s.length], .box [.pv (.int .i64 c.k)], .row false 3 1 (nums c.d), .row false 3 1 (nums c.s)] ∧ c.ns.length = rk ∧ c.ms.length = rk ∧ c.d.length ≤ 10000 ∧ c.s.length ≤ 10000 := by
  unfold dec1 at h
  split at h
  · rename_i t ns u ms o a a' b b' k xs ys
    cases hb : okA rk xs ys ns ms a a' b b' with
    | false => rw [hb] at h; cases h
    | true =>
      rw [hb, cond_true, Option.some.injEq] at h
      subst h
      simp only [okA, Bool.and_eq_true, decide_eq_true_eq] at hb
      obtain ⟨⟨⟨⟨⟨⟨⟨⟨⟨⟨⟨h1, h2⟩, h3⟩, h4⟩, rfl⟩, rfl⟩, rfl⟩, rfl⟩, h5⟩, h6⟩, h7⟩, h8⟩ := hb
      obtain ⟨d, rfl⟩ := nums_of h1
      obtain ⟨s, rfl⟩ := nums_of h2
      obtain ⟨n, rfl⟩ := nums_of h3
      obtain ⟨m, rfl⟩ := nums_of h4
      rw [nums_length] at h5 h6 h7 h8
      exact ⟨t, u, by simp, by simp, by simpa using h7, by simpa using h8, by simpa using h5, by simpa using h6⟩
  · cases h
abbrev Chg := CA → Int ⊕ (Int × List Int × List Int)
def val1 (rk : Nat) (f : Chg) (args : List AV) (os : List AObj) : AV × List AObj × List AObj :=
  match dec1 rk args os with
  | some c => match f c with
    | .inl e => (.pv (.int .i64 e), os, [])
    | .inr (o', ds, ss) => (.pv (.int .i64 0), [.box [.pv (.int .i64 o'), .row 2 (c.d ++ ds).length 0 (c.d ++ ds).length, .row 3 (c.s ++ ss).length 0 (c.s ++ ss).length], .box [.pv (.int .i64 c.k)], .row false 3 1 (nums (c.d ++ ds)), .row false 3 1 (nums (c.s ++ ss))], [])
  | none => (.junk, [], [])
def pre1 (rk : Nat) (args : List AV) (os : List AObj) : Bool := (dec1 rk args os).isSome
def n0 (c : CA) : Int := c.ns.getD 0 0
def m0 (c : CA) : Int := c.ms.getD 0 0
def takeC : Chg := fun c => if c.k < 0 ∨ c.k > n0 c then .inl 2 else .inr (c.o, [c.k], [m0 c])
theorem pre_put_of (o n m : Int) (d s : List Int) (h1 : d.length ≤ 10000) (h2 : s.length ≤ 10000) : pre_put [.ptr 0 0, .pv (.int .i64 n), .pv (.int .i64 m)] [.box [.pv (.int .i64 o), .row 1 d.length 0 d.length, .row 2 s.length 0 s.length], .row false 3 1 (nums d), .row false 3 1 (nums s)] = true := by
  simp [pre_put]; omega
def dropC : Chg := fun c => if c.k < 0 ∨ c.k > n0 c then .inl 2 else .inr (if n0 c > c.k then w64 (c.o + w64 (c.k * m0 c)) else c.o, [w64 (n0 c - c.k)], [m0 c])
def windC : Chg := fun c => if c.k < 0 ∨ c.k > n0 c then .inl 2 else .inr (c.o, [w64 (w64 (n0 c - c.k) + 1), c.k], [m0 c, m0 c])
def chunkC : Chg := fun c => if c.k < 1 ∨ c.k > 64 then .inl 2 else if (n0 c).tmod c.k ≠ 0 then .inl 14 else .inr (c.o, [w64 ((n0 c).tdiv c.k), c.k], [w64 (c.k * m0 c), m0 c])
theorem pre_put_2 (o n m : Int) (xs ys : List PV) (hx : xs.all PV.isNum = true) (hy : ys.all PV.isNum = true) (h1 : xs.length ≤ 20000) (h2 : ys.length ≤ 20000) {a b : Nat} (ha : a = xs.length) (hb : b = ys.length) : pre_put [.ptr 0 0, .pv (.int .i64 n), .pv (.int .i64 m)] [.box [.pv (.int .i64 o), .row 1 a 0 a, .row 2 b 0 b], .row false 3 1 xs, .row false 3 1 ys] = true := by
  subst ha hb
  simp only [pre_put, hx, hy, Bool.and_eq_true, decide_eq_true_eq, true_and]
  omega
theorem wind1_run : ∀ args os, pre1 1 args os = true → Gets T_wind1 os.length (fun st => finO os.length st rs_wind1 = some (val1 1 windC args os)) ic_wind1 [] (st0O nt_wind1 args os) := by
  intro args os hp
  obtain ⟨c, hc⟩ := Option.isSome_iff_exists.1 hp
  unfold val1
  rw [hc]
  obtain ⟨t, u, rfl, rfl, h1, h2, h3, h4⟩ := dec1_ok hc
  obtain ⟨o, d, s, ns, ms, k⟩ := c
  simp only at *
  match ns, ms, h1, h2 with
  | [n], [m], _, _ =>
    by_cases hk : k < 0
    · exact wind1_s_0 o d s [n] [m] t u k (by simpa using hk) (by simp [windC, hk])
    · by_cases hk2 : k > n
      · exact wind1_s_1 o d s [n] [m] t u k (by simpa using hk) (by simp) (by rfl) (by simpa [nums, PV.cells, PV.asInt] using hk2) (by simp [windC, n0, hk2])
      · refine wind1_s_2 o d s [n] [m] t u k (by simpa using hk) (by simp) (by rfl) (by simpa [nums, PV.cells, PV.asInt] using hk2) (by simp) (by rfl) (pre_put_of _ _ m d s h3 h4) ?_ ?_
        · exact pre_put_2 o k m _ _ (by rw [List.all_append, all_nums]; rfl) (by rw [List.all_append, all_nums]; rfl) (by simp; omega) (by simp; omega) (by simp) (by simp)
        · simp [windC, n0, m0, hk, hk2, nums, PV.cells, Sh.co, PV.asInt, w64]
end Go.Pl

namespace Go.Pl
open Go.RowKit
def dec0 (rk : Nat) : List AV → List AObj → Option CA
  | [.ptr 0 0, .pv (.sl 1 _ ns), .pv (.sl 1 _ ms)], [.box [.pv (.int .i64 o), .row 1 a 0 a', .row 2 b 0 b'], .row false 3 1 xs, .row false 3 1 ys] =>
    bif okA rk xs ys ns ms a a' b b' then some ⟨o, xs.map PV.asInt, ys.map PV.asInt, ns.map PV.asInt, ms.map PV.asInt, 0⟩ else none
  | _, _ => none
theorem dec0_ok {rk : Nat} {args : List AV} {os : List AObj} {c : CA} (h : dec0 rk args os = some c) : ∃ t u, args = [.ptr 0 0, .pv (.sl 1 t (nums c.ns)), .pv (.sl 1 u (nums c.ms))] ∧
    os = [.box [.pv (.int .i64 c.o), .row 1 c.d.length 0 c.d.length, .row 2 c.s.length 0 c.s.length], .row false 3 1 (nums c.d), .row false 3 1 (nums c.s)] ∧ c.ns.length = rk ∧ c.ms.length = rk ∧ c.d.length ≤ 10000 ∧ c.s.length ≤ 10000 := by
  unfold dec0 at h
  split at h
  · rename_i t ns u ms o a a' b b' xs ys
    cases hb : okA rk xs ys ns ms a a' b b' with
    | false => rw [hb] at h; cases h
    | true =>
      rw [hb, cond_true, Option.some.injEq] at h
      subst h
      simp only [okA, Bool.and_eq_true, decide_eq_true_eq] at hb
      obtain ⟨⟨⟨⟨⟨⟨⟨⟨⟨⟨⟨h1, h2⟩, h3⟩, h4⟩, rfl⟩, rfl⟩, rfl⟩, rfl⟩, h5⟩, h6⟩, h7⟩, h8⟩ := hb
      obtain ⟨d, rfl⟩ := nums_of h1
      obtain ⟨s, rfl⟩ := nums_of h2
      obtain ⟨n, rfl⟩ := nums_of h3
      obtain ⟨m, rfl⟩ := nums_of h4
      rw [nums_length] at h5 h6 h7 h8
      exact ⟨t, u, by simp, by simp, by simpa using h7, by simpa using h8, by simpa using h5, by simpa using h6⟩
  · cases h
def val0 (rk : Nat) (f : Chg) (args : List AV) (os : List AObj) : AV × List AObj × List AObj :=
  match dec0 rk args os with
  | some c => match f c with
    | .inl e => (.pv (.int .i64 e), os, [])
    | .inr (o', ds, ss) => (.pv (.int .i64 0), [.box [.pv (.int .i64 o'), .row 1 (c.d ++ ds).length 0 (c.d ++ ds).length, .row 2 (c.s ++ ss).length 0 (c.s ++ ss).length], .row false 3 1 (nums (c.d ++ ds)), .row false 3 1 (nums (c.s ++ ss))], [])
  | none => (.junk, [], [])
def pre0 (rk : Nat) (args : List AV) (os : List AObj) : Bool := (dec0 rk args os).isSome
def n1 (c : CA) : Int := c.ns.getD 1 0
def m1 (c : CA) : Int := c.ms.getD 1 0
def revC : Chg := fun c => .inr (if n0 c > 0 then w64 (c.o + w64 (w64 (n0 c - 1) * m0 c)) else c.o, [n0 c], [w64 (-m0 c)])
def tranC : Chg := fun c => .inr (c.o, [n1 c, n0 c], [m1 c, m0 c])
def diagC : Chg := fun c => if n0 c ≠ n1 c then .inl 14 else .inr (c.o, [n0 c], [w64 (m0 c + m1 c)])
theorem tran1_run : ∀ args os, pre0 2 args os = true → Gets T_tran1 os.length (fun st => finO os.length st rs_tran1 = some (val0 2 tranC args os)) ic_tran1 [] (st0O nt_tran1 args os) := by
  intro args os hp
  obtain ⟨c, hc⟩ := Option.isSome_iff_exists.1 hp
  unfold val0
  rw [hc]
  obtain ⟨t, u, rfl, rfl, h1, h2, h3, h4⟩ := dec0_ok hc
  obtain ⟨o, d, s, ns, ms, k⟩ := c
  simp only at *
  match ns, ms, h1, h2 with
  | [n, n'], [m, m'], _, _ =>
    refine tran1_s_0 o d s [n, n'] [m, m'] t u (by simp) (by rfl) (by simp) (by rfl) (pre_put_of _ _ m' d s h3 h4) (by simp) (by rfl) (by simp) (by rfl) ?_ ?_
    · exact pre_put_2 o n m _ _ (by rw [List.all_append, all_nums]; rfl) (by rw [List.all_append, all_nums]; rfl) (by simp; omega) (by simp; omega) (by simp) (by simp)
    · simp [tranC, n0, m0, n1, m1, nums, PV.cells, Sh.co, PV.asInt]
end Go.Pl

namespace Go.Pl
open Go.RowKit
def errC (f : Chg) (c : CA) : Int := match f c with | .inl e => e | .inr _ => 0
def offC (f : Chg) (c : CA) : Int := match f c with | .inl _ => c.o | .inr (o, _, _) => o
def dimC (f : Chg) (c : CA) : List Int := match f c with | .inl _ => [] | .inr (_, d, _) => d
def strC (f : Chg) (c : CA) : List Int := match f c with | .inl _ => [] | .inr (_, _, s) => s
def caOf (o : Int) (xs ys ns ms : List PV) (k : Int) : CA := ⟨o, xs.map PV.asInt, ys.map PV.asInt, ns.map PV.asInt, ms.map PV.asInt, k⟩
def pre_copyn : List AV → List AObj → Bool
  | [.pv (.sl 1 _ xs)], [] => xs.all PV.isNum && decide (xs.length ≤ 1000000) && !xs.isEmpty
  | _, _ => false
def pre_copyz : List AV → List AObj → Bool
  | [.pv (.sl 1 _ xs)], [] => xs.isEmpty
  | _, _ => false
def val_copyz (_ : List AV) (_ : List AObj) : AV × List AObj × List AObj := (.pv (.sl 1 true []), [], [])
def slT (xs : List Int) : PV := .sl 1 xs.isEmpty (nums xs)
theorem slT_sub (xs : List Int) : Sub (slT xs) (.sl 1 false (nums xs)) := .sl _ _ _
def pre_put0 : List AV → List AObj → Bool
  | [.ptr 0 0, .pv (.int .i64 _), .pv (.int .i64 _)], [.box [.pv (.int .i64 _), .pv (.sl 1 true []), .pv (.sl 1 true [])]] => true
  | _, _ => false
def val_put0 : List AV → List AObj → AV × List AObj × List AObj
  | [_, .pv n, .pv m], [.box [o, _, _]] => (.tup [], [.box [o, .row 1 1 0 1, .row 2 1 0 1]], [.row false 3 1 [n], .row false 3 1 [m]])
  | _, _ => (.junk, [], [])
def pre_putc (args : List AV) (os : List AObj) : Bool := match os with | [.box [_, .pv _, _]] => pre_put0 args os | _ => pre_put args os
def val_putc (args : List AV) (os : List AObj) : AV × List AObj × List AObj := match os with | [.box [_, .pv _, _]] => val_put0 args os | _ => val_put args os
def addL (xs : List PV) (ns : List Int) : List PV := xs ++ nums ns
def val1p (f : Chg) : List AV → List AObj → AV × List AObj × List AObj
  | [_, .pv (.sl _ _ ns), .pv (.sl _ _ ms), _], [.box [.pv (.int _ o), .row _ _ _ _, .row _ _ _ _], .box [.pv (.int _ k)], .row _ _ _ xs, .row _ _ _ ys] =>
    (.pv (.int .i64 (errC f (caOf o xs ys ns ms k))), [.box [.pv (.int .i64 (offC f (caOf o xs ys ns ms k))), .row 2 (addL xs (dimC f (caOf o xs ys ns ms k))).length 0 (addL xs (dimC f (caOf o xs ys ns ms k))).length, .row 3 (addL ys (strC f (caOf o xs ys ns ms k))).length 0 (addL ys (strC f (caOf o xs ys ns ms k))).length],
      .box [.pv (.int .i64 k)], .row false 3 1 (addL xs (dimC f (caOf o xs ys ns ms k))), .row false 3 1 (addL ys (strC f (caOf o xs ys ns ms k)))], [])
  | _, _ => (.junk, [], [])
def val0p (f : Chg) : List AV → List AObj → AV × List AObj × List AObj
  | [_, .pv (.sl _ _ ns), .pv (.sl _ _ ms)], [.box [.pv (.int _ o), .row _ _ _ _, .row _ _ _ _], .row _ _ _ xs, .row _ _ _ ys] =>
    (.pv (.int .i64 (errC f (caOf o xs ys ns ms 0))), [.box [.pv (.int .i64 (offC f (caOf o xs ys ns ms 0))), .row 1 (addL xs (dimC f (caOf o xs ys ns ms 0))).length 0 (addL xs (dimC f (caOf o xs ys ns ms 0))).length, .row 2 (addL ys (strC f (caOf o xs ys ns ms 0))).length 0 (addL ys (strC f (caOf o xs ys ns ms 0))).length],
      .row false 3 1 (addL xs (dimC f (caOf o xs ys ns ms 0))), .row false 3 1 (addL ys (strC f (caOf o xs ys ns ms 0)))], [])
  | _, _ => (.junk, [], [])
theorem val1_eq {rk : Nat} (f : Chg) {args : List AV} {os : List AObj} (h : pre1 rk args os = true) : val1 rk f args os = val1p f args os := by
  obtain ⟨c, hc⟩ := Option.isSome_iff_exists.1 h
  unfold val1
  rw [hc]
  obtain ⟨t, u, rfl, rfl, h1, h2, h3, h4⟩ := dec1_ok hc
  obtain ⟨o, d, s, ns, ms, k⟩ := c
  simp only [val1p, caOf, asInt_nums, errC, offC, dimC, strC, addL]
  cases f ⟨o, d, s, ns, ms, k⟩ <;> simp [nums_append]
theorem val0_eq {rk : Nat} (f : Chg) {args : List AV} {os : List AObj} (h : pre0 rk args os = true) : val0 rk f args os = val0p f args os := by
  obtain ⟨c, hc⟩ := Option.isSome_iff_exists.1 h
  unfold val0
  rw [hc]
  obtain ⟨t, u, rfl, rfl, h1, h2, h3, h4⟩ := dec0_ok hc
  obtain ⟨o, d, s, ns, ms, k⟩ := c
  have hk : k = 0 := by
    unfold dec0 at hc
    simp only at hc
    cases hb : okA rk (nums d) (nums s) (nums ns) (nums ms) d.length d.length s.length s.length <;> rw [hb] at hc <;> simp at hc
    exact hc.symm
  subst hk
  simp only [val0p, caOf, asInt_nums, errC, offC, dimC, strC, addL]
  cases f ⟨o, d, s, ns, ms, 0⟩ <;> simp [nums_append]
def pre_c1z (rk : Nat) : List AV → List AObj → Bool
  | [.ptr 0 0, .pv (.sl 1 _ ns), .pv (.sl 1 _ ms), .ptr 1 0], [.box [.pv (.int .i64 _), .pv (.sl 1 true []), .pv (.sl 1 true [])], .box [.pv (.int .i64 _)]] => ns.all PV.isNum && (ms.all PV.isNum && (decide (ns.length = rk) && decide (ms.length = rk)))
  | _, _ => false
def val_c1z (f : Chg) : List AV → List AObj → AV × List AObj × List AObj
  | [_, .pv (.sl _ _ ns), .pv (.sl _ _ ms), _], [.box [.pv (.int _ o), _, _], .box [.pv (.int _ k)]] =>
    (.pv (.int .i64 (errC f (caOf o [] [] ns ms k))), [.box [.pv (.int .i64 (offC f (caOf o [] [] ns ms k))), .pv (slT (dimC f (caOf o [] [] ns ms k))), .pv (slT (strC f (caOf o [] [] ns ms k)))], .box [.pv (.int .i64 k)]], [])
  | _, _ => (.junk, [], [])
def pre_c0z (rk : Nat) : List AV → List AObj → Bool
  | [.ptr 0 0, .pv (.sl 1 _ ns), .pv (.sl 1 _ ms)], [.box [.pv (.int .i64 _), .pv (.sl 1 true []), .pv (.sl 1 true [])]] => ns.all PV.isNum && (ms.all PV.isNum && (decide (ns.length = rk) && decide (ms.length = rk)))
  | _, _ => false
def val_c0z (f : Chg) : List AV → List AObj → AV × List AObj × List AObj
  | [_, .pv (.sl _ _ ns), .pv (.sl _ _ ms)], [.box [.pv (.int _ o), _, _]] =>
    (.pv (.int .i64 (errC f (caOf o [] [] ns ms 0))), [.box [.pv (.int .i64 (offC f (caOf o [] [] ns ms 0))), .pv (slT (dimC f (caOf o [] [] ns ms 0))), .pv (slT (strC f (caOf o [] [] ns ms 0)))]], [])
  | _, _ => (.junk, [], [])
end Go.Pl

