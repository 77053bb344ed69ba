/-
  Texts of mine that belong together (packed by pack.py), for every input: Post, Base, IntA, Size, VwA, VwB, VwE, OkA, VwO, VwP, OkB, VwR, PlGl, OkQ.
-/
import Derived.Test.YtpdpkmihgelmoaaChecked
import Derived.Test.YtpdpkmihgelmoaaProg
import Derived.Test.YtpdpkmihgelmoaaKX2
import Derived.Test.YtpdpkmihgelmoaaKX4
import Derived.Below
import Derived.ChangeSame
import Derived.Calls
import Derived.WalkKit
import Derived.Lib.Hide
import Derived.Laws.OwnMore
import Derived.Laws.Rows
import Derived.Deep.AppendLies
import Derived.Deep.Draws
import Derived.Deep.QuietTactic
import Derived.WalkSpells
import Derived.WalkLawsBesides
import Derived.BigQuiet
import Derived.IntWalk
import Derived.Outline
import Derived.Deep.DeepAppendRoom
import Derived.KernelRfl
import Derived.RangeFuncBox
import Derived.RangeFuncLeaves
import Derived.RangeFuncNested
import Derived.RangeFuncCalls
import Derived.Shelf.Abstract
import Derived.OwnWalkIn
import Derived.TacticsInMore
import Derived.LoopNIn
import Derived.LoopIn
import Derived.Maps.AppendAt
import Derived.ChangeShapes
import Derived.ChangeSlices
import Derived.WideShapes
import Derived.RowKit
set_option linter.unusedVariables false
set_option linter.unusedSimpArgs false
namespace Go.Proofs.Ytpdpkmihgelmoaa
open Go.RowKit Go.WideShapes Go.ChangeShapes
section
variable {H : Type} {enc : TypeId × Value → H} {P : Program}
theorem post_of_below {f : Func} {s : ChangeSpec} {apart fresh handsOn again : Bool} {W W' : World} {args : Array Value} {v : Value} {ds gs : List (DataW H)} {before pa pv : List MemPlace}
    (hW : DataW.Whole enc P f.params.toList s.vars apart W args.toList ds gs before)
    (hres : ∀ (b : Nat) (sp : Nat → Bool) (hd : Bool), DataW.TrodAll enc P W' b sp hd f.resultTypes.toList (v.resultList f.resultTypes.size) (s.fn H (ds ++ gs)).results [])
    (hargs : ∀ sp : Nat → Bool, (∀ p ∈ before, sp p.block = true) → DataW.TrodAll enc P W' 0 sp true f.params.toList args.toList (s.fn H (ds ++ gs)).args pa)
    (hvars : ∀ sp : Nat → Bool, (∀ p ∈ before, sp p.block = true) → DataW.TrodVars enc P W' sp s.vars (s.fn H (ds ++ gs)).vars pv)
    (hps : before = pa ++ pv) (hb : Below W.heap.size W W')
    (hok : ∀ (j : Nat) (t : TypeId) (r : Value), f.resultTypes[j]? = some t → (v.resultList f.resultTypes.size)[j]? = some r → Value.okWide P W' .any 0 t r) :
    s.post enc P f apart fresh handsOn again W args v W' := by
  have hlt : ∀ p ∈ before, p.block < W.heap.size := fun p hp => hW.lt p hp
  have hold : ∀ p ∈ before, (fun b => decide (b < W.heap.size)) p.block = true := fun p hp => by simpa using hlt p hp
  refine ⟨ds, gs, before, [], pa, pv, hW, hres _ _ _, hargs _ hold, hvars _ hold, World.keptBut_mono (fun p hp => ⟨hp, ?_⟩) (hb.frame (· ∈ before)), fun _ => ?_⟩
  · rw [hps, List.mem_append] at hp
    exact Or.inr hp
  · obtain ⟨_, _, _, _, _, hz, hn⟩ := hW
    refine ⟨hok, _, _, ([] ++ pa) ++ pv, ⟨[] ++ pa, pv, trodAll_append (hargs _ (fun _ _ => rfl)) (hres _ _ _), hvars _ (fun _ _ => rfl), rfl, ?_, ?_⟩, ?_⟩
    · intro b off hp
      have hin : MemPlace.cell b off ∈ before := by rw [hps]; simpa using hp
      rw [hb.frozen (hlt _ hin)]
      exact hz b off hin
    · intro ha
      have := hn ha
      rw [hps] at this
      simpa using this
    · intro p hp _
      rw [hps]
      simpa using hp
end
end Go.Proofs.Ytpdpkmihgelmoaa

namespace Go.Proofs.Ytpdpkmihgelmoaa
open Go.RowKit
theorem block_of_add (a : Addr) (n : Nat) : (a.add n).block = a.block := by unfold Addr.add; split <;> rfl
def Reads (w : World) (B size : Nat) (A : Option Addr) (n : Nat) (xs : List Value) : Prop :=
  xs.length = n * size ∧ (0 < n → ∃ ad, A = some ad ∧ ad.block < B ∧ ∀ j u, xs[j]? = some u → w.cell? (ad.add j) = some u)
section
variable {w w' : World} {B B' size n : Nat} {A : Option Addr} {xs : List Value}
theorem Reads.none_ : Reads w B size A 0 [] := ⟨by simp, fun h => absurd h (by omega)⟩
theorem Reads.at_ {k : Nat} (h : Reads w B 1 A n xs) (hk : k < n) : ∃ ad u, A = some ad ∧ ad.block < B ∧ xs[k]? = some u ∧ w.cell? (ad.add k) = some u := by
  obtain ⟨ad, e, hb, hc⟩ := h.2 (by omega)
  have hl : k < xs.length := by have := h.1; omega
  exact ⟨ad, xs[k], e, hb, List.getElem?_eq_getElem hl, hc k _ (List.getElem?_eq_getElem hl)⟩
theorem Reads.keep (h : Reads w B size A n xs) (hk : ∀ p : Addr, p.block < B → w'.cell? p = w.cell? p) : Reads w' B size A n xs :=
  ⟨h.1, fun hn => by
    obtain ⟨ad, e, hb, hc⟩ := h.2 hn
    exact ⟨ad, e, hb, fun j u hu => (hk _ (by rw [block_of_add]; exact hb)).trans (hc j u hu)⟩⟩
theorem Reads.below (h : Reads w B size A n xs) (hb : Below B w w') : Reads w' B size A n xs := h.keep fun _ hp => hb.cell hp
theorem Reads.drew (h : Reads w B size A n xs) : Reads w.drew B size A n xs := h
theorem Reads.alloc (h : Reads w B size A n xs) (hB : B ≤ w.heap.size) (o : Obj) : Reads (w.alloc o) B size A n xs := h.keep fun p hp => World.cell?_alloc_lt w o p (by omega)
theorem Reads.setCell (h : Reads w B size A n xs) {p : Addr} (hB : B ≤ p.block) (u : Value) : Reads (w.setCell p u) B size A n xs :=
  h.keep fun q hq => World.cell?_setCell_other w p q u (fun e => by subst e; omega)
theorem Reads.grown (h : Reads w B size A n xs) {row : Option Nat} (hg : w.grownBy w' row) (hB : B ≤ w.heap.size) (hr : ∀ g, row = some g → B ≤ g) : Reads w' B size A n xs :=
  h.keep fun p hp => World.cell?_of_block (hg.block p.block (by omega) (fun e => by have := hr _ e.symm; omega))
end
def Blk (w : World) (g : Nat) (t : TypeId) (cs : Array Value) : Prop := w.heap[g]? = some (.cells cs t (0, 0))
section
variable {w w' : World} {g : Nat} {t : TypeId} {cs : Array Value}
theorem Blk.lt (h : Blk w g t cs) : g < w.heap.size := by
  rcases Nat.lt_or_ge g w.heap.size with hlt | hge
  · exact hlt
  · unfold Blk at h; rw [Array.getElem?_eq_none hge] at h; cases h
theorem Blk.cell (h : Blk w g t cs) (i : Nat) : w.cell? ⟨g, i, none⟩ = cs[i]? := cell_of_row w g i cs t (0, 0) h
theorem Blk.frozen (h : Blk w g t cs) (i : Nat) : w.frozen? ⟨g, i, none⟩ = false := by
  unfold Blk at h
  simp [World.frozen?, h]
theorem Blk.new (w : World) (t : TypeId) (cs : Array Value) : Blk (w.alloc (.cells cs t)) w.heap.size t cs := heap_alloc_new w _
theorem Blk.drew (h : Blk w g t cs) : Blk w.drew g t cs := h
theorem Blk.alloc (h : Blk w g t cs) (o : Obj) : Blk (w.alloc o) g t cs := (Below.heap_alloc w o g h.lt).trans h
theorem Blk.below {B : Nat} (h : Blk w g t cs) (hb : Below B w w') (hg : g < B) : Blk w' g t cs := (hb.block g hg).trans h
theorem Blk.grown {row : Option Nat} (h : Blk w g t cs) (hb : w.grownBy w' row) (hg : some g ≠ row) : Blk w' g t cs := (hb.block g h.lt hg).trans h
end
end Go.Proofs.Ytpdpkmihgelmoaa

namespace Go.Proofs.Ytpdpkmihgelmoaa
open Go.RowKit
end Go.Proofs.Ytpdpkmihgelmoaa

namespace Go.Proofs.Ytpdpkmihgelmoaa
open Go.RowKit
def pz : Int → List Int → Option Int
  | p, [] => some p
  | p, d :: l => bif decide (4096 < p * d) then none else pz (p * d) l
end Go.Proofs.Ytpdpkmihgelmoaa

namespace Go.Proofs.Ytpdpkmihgelmoaa
open Go.RowKit
end Go.Proofs.Ytpdpkmihgelmoaa

namespace Go.Proofs.Ytpdpkmihgelmoaa
open Go.RowKit
theorem info_i : (Try.prog.info? 3).map (fun i => (i.zero, i.size, i.bytes)) = some (some (.int .i64 0), 1, 8) := by kernel_rfl
theorem under_is : Try.prog.underlying 28 = some (.slice 3) := by kernel_rfl
theorem news_at {w : World} {B n : Nat} {ad : Addr} {xs : List Value} (h : Reads w B 1 (some ad) n xs) (hB : B ≤ w.heap.size) (o : Obj) : ∀ j u, xs[j]? = some u → (w.alloc o).cell? (ad.add j) = some u := by
  intro j u hu
  have hn : 0 < n := by
    have := h.1
    have := (List.getElem?_eq_some_iff.1 hu).1
    omega
  obtain ⟨a, e, hb, hc⟩ := (h.alloc hB o).2 hn
  cases e
  exact hc j u hu
theorem one_ints (zs : List Int) : ∀ u ∈ zs.map (Value.int .i64), u.oneCell' = true := by
  intro u hu
  obtain ⟨x, _, rfl⟩ := List.mem_map.1 hu
  rfl
set_option maxHeartbeats 1000000 in
theorem Clone_any (A : Option Addr) (n c : Nat) (zs : List Int) (w : World) (hr : Reads w w.heap.size 1 A n (zs.map (Value.int .i64))) (hn : n ≤ 1000000) :
    Calls Try.prog 74 #[.slice A n c] w fun e w' => (∃ A' c', e = .returned (.slice A' n c') ∧ w'.ownsRow w.heap.size 3 1 (.slice A' n c') n (zs.map (Value.int .i64))) ∧ Below w.heap.size w w' := by
  obtain ⟨i0, hi, hz0, hz1, hz2⟩ := info_parts info_i
  have HI := Lib.hid hi
  have HZ0 := Lib.hid hz0
  have HZ1 := Lib.hid hz1
  have HZ2 := Lib.hid hz2
  clear hi hz0 hz1 hz2
  have hl : Hid ((zs.map (Value.int .i64)).length = n * 1) := Lib.hid hr.1
  cases A with
  | none =>
    obtain rfl : n = 0 := by
      rcases Nat.eq_zero_or_pos n with h | h
      · exact h
      · obtain ⟨_, e, _⟩ := hr.2 h
        cases e
    obtain rfl : zs = [] := by have := hl.out; simpa using this
    have hnil := fun (W : World) (a : Option Addr) (l k : Nat) => Lib.run_eql_slice_nil (P := Try.prog) W 28 3 a l k 0 0 under_is
    go_enter Try.func74, Try.ntmps74
    go_wp2
    go_ret
    exact ⟨⟨_, _, rfl, World.ownsRow_nil _ _ _ _⟩, Below.refl _ _⟩
  | some ad =>
    have HN := Lib.hid (news_at hr (Nat.le_refl _))
    have hnil := fun (W : World) (a : Option Addr) (l k : Nat) => Lib.run_eql_slice_nil (P := Try.prog) W 28 3 a l k 0 0 under_is
    go_enter Try.func74, Try.ntmps74
    go_wp2_with (first
      | (at_builtin; refine wpList_append_own _ rfl _ _ 28 rfl w.heap.size 3 i0 (.int .i64 0) 1 8 under_is HI.out HZ0.out HZ1.out HZ2.out rfl (by decide) _ 0 [] rfl (World.ownsRow_made w #[] 0 (Nat.le_refl _) (by unfold maxLen; omega) rfl) ad n c (zs.map (Value.int .i64)) rfl hl.out (HN.out _) (one_ints zs) ?c3 ?c4 ?c5 ?_)
      | fail)
    case c3 => unfold maxLen; omega
    case c4 => omega
    case c5 => simp
    · intro v' w1 hown' hgrow _
      have hbl' : Below w.heap.size w w1 := ((Below.refl _ _).alloc (Nat.le_refl _) _).grown hgrow (by simp) (by rintro _ ⟨⟩; exact Nat.le_refl _)
      try simp only [Nat.zero_add, List.nil_append] at hown'
      rcases hown'.2 with ⟨rfl, h0⟩ | ⟨g, cap, cur, rfl, _⟩
      · obtain rfl := h0
        clear hgrow
        go_wp2
        go_ret
        exact ⟨⟨_, _, rfl, hown'⟩, hbl'⟩
      · clear hgrow
        go_wp2
        go_ret
        exact ⟨⟨_, _, rfl, hown'⟩, hbl'⟩
end Go.Proofs.Ytpdpkmihgelmoaa

namespace Go.Proofs.Ytpdpkmihgelmoaa
open Go.RowKit Go.Pl
theorem RP_int {Φ : Phi} {v : Value} {k : IntKind} {n : Int} (h : RP Φ v (.int k n)) : v = .int k n := by cases h; rfl
theorem flat_nums (zs : List Int) : flat (nums zs) = nums zs := by
  induction zs with
  | nil => rfl
  | cons z zs ih => exact congrArg (_ :: ·) ih
theorem nums_getElem? (zs : List Int) (j : Nat) : (nums zs)[j]? = zs[j]?.map (.int .i64) := by simp [nums]
theorem row_ints {Φ : Phi} {w : World} {v : Value} {t : Bool} {zs : List Int} (h : RP Φ v (.sl 1 t (nums zs))) (hΦ : PhiOK Φ w) : ∃ A c, v = .slice A zs.length c ∧ Reads w w.heap.size 1 A zs.length (zs.map (Value.int .i64)) := by
  generalize hq : nums zs = xs at h
  cases h with
  | sl0 a c _ _ ht =>
    have : zs = [] := by cases zs with | nil => rfl | cons => simp [nums] at hq
    subst this
    exact ⟨a, c, rfl, Reads.none_⟩
  | sl b off cs c _ _ _ u hb hc ht hs hu hr =>
    subst hq
    rw [flat_nums] at hu hr
    refine ⟨_, c, by rw [nums_length], by simp, fun hn => ⟨_, rfl, ?_, ?_⟩⟩
    · obtain ⟨T, fz, hh⟩ := hΦ _ _ hb
      exact (Array.getElem?_eq_some_iff.1 hh).1
    · intro j x hx
      rw [List.getElem?_map] at hx
      obtain ⟨z, hz, rfl⟩ := Option.map_eq_some_iff.1 hx
      have hp : (nums zs)[j]? = some (.int .i64 z) := by rw [nums_getElem?, hz]; rfl
      obtain ⟨h1, h2⟩ := hu j _ hp
      have h3 := RP_int (hr j _ hp)
      obtain ⟨T, fz, hh⟩ := hΦ _ _ hb
      rw [h3] at h1
      rw [add_off]
      simp [World.cell?, hh, h1]
def addΦ (Φ : Phi) (g : Nat) (cs : Array Value) : Phi := fun b => if b = g then some cs else Φ b
theorem owned_ints {Φ : Phi} {w w' : World} {v : Value} {zs : List Int} (hΦ : PhiOK Φ w) (hb : Below w.heap.size w w') (h : w'.ownsRow w.heap.size 3 1 v zs.length (zs.map (Value.int .i64))) :
    ∃ Φ', Phi.le Φ Φ' ∧ PhiOK Φ' w' ∧ RP Φ' v (.sl 1 false (nums zs)) ∧ ∀ b cs, Φ' b = some cs → Φ b = some cs ∨ w.heap.size ≤ b := by
  have hok : PhiOK Φ w' := fun b cs hc => by
    obtain ⟨T, fz, hh⟩ := hΦ b cs hc
    exact ⟨T, fz, (hb.block b (Array.getElem?_eq_some_iff.1 hh).1).trans hh⟩
  rcases h.2 with ⟨rfl, h0⟩ | ⟨g, cap, cur, rfl, hg, hh, h1, h2, h3, h4⟩
  · have : zs = [] := List.length_eq_zero_iff.1 h0
    subst this
    exact ⟨Φ, Phi.le.refl _, hok, .sl0 _ _ _ _ (fun e => by cases e), fun b cs hc => .inl hc⟩
  · have hne : ∀ b cs, Φ b = some cs → b ≠ g := by
      rintro b cs hc rfl
      obtain ⟨T, fz, hh'⟩ := hΦ _ cs hc
      have := (Array.getElem?_eq_some_iff.1 hh').1
      omega
    refine ⟨addΦ Φ g cur, fun b cs hc => ?_, fun b cs hc => ?_, ?_, fun b cs hc => ?_⟩
    · simp only [addΦ, if_neg (hne b cs hc)]; exact hc
    · unfold addΦ at hc
      split at hc
      · rename_i e; subst e; cases hc; exact ⟨_, _, hh⟩
      · exact hok b cs hc
    · have hat : ∀ (j : Nat) z, zs[j]? = some z → cur[j]? = some (.int .i64 z) := by
        intro j z hz
        have hj := (List.getElem?_eq_some_iff.1 hz).1
        have : (cur.toList.take (zs.length * 1))[j]? = some (.int .i64 z) := by rw [h4, List.getElem?_map, hz]; rfl
        rw [List.getElem?_take, if_pos (by omega)] at this
        simpa using this
      have hl : (nums zs).length = zs.length := nums_length zs
      have := RP.sl (Φ := addΦ Φ g cur) g 0 cur cap 1 false (nums zs) (fun j => .int .i64 (zs.getD j 0)) (by simp [addΦ]) (by omega) (by intro e; cases e)
        (by intro x hx; obtain ⟨z, _, rfl⟩ := List.mem_map.1 hx; rfl)
        (by
          intro j p hp
          rw [flat_nums, nums_getElem?] at hp
          obtain ⟨z, hz, rfl⟩ := Option.map_eq_some_iff.1 hp
          refine ⟨?_, rfl⟩
          rw [Nat.zero_add, hat j z hz]
          simp [List.getD, hz])
        (by
          intro j p hp
          rw [flat_nums, nums_getElem?] at hp
          obtain ⟨z, hz, rfl⟩ := Option.map_eq_some_iff.1 hp
          simp only [List.getD, hz, Option.getD_some]
          exact .int _ _)
      rwa [hl] at this
    · unfold addΦ at hc
      split at hc
      · rename_i e; subst e; exact .inr hg
      · exact .inl hc
theorem clone_pure : PureOK Try.prog 74 pre_copy val_copy := by
  intro ps hp Φ w vs hΦ hv
  unfold pre_copy at hp
  split at hp
  · rename_i t xs
    simp only [Bool.and_eq_true, decide_eq_true_eq] at hp
    obtain ⟨zs, rfl⟩ := nums_of hp.1
    have hn : zs.length ≤ 1000000 := by simpa using hp.2
    obtain ⟨v, rfl⟩ : ∃ v, vs = #[v] := by
      have := hv.1
      simp at this
      obtain ⟨l⟩ := vs
      match l, this with
      | [v], _ => exact ⟨v, rfl⟩
    have h0 := hv.2 0 v _ rfl rfl
    obtain ⟨A, c, rfl, hr⟩ := row_ints h0 hΦ
    refine (Clone_any A zs.length c zs w hr hn).mono ?_
    rintro e w' ⟨⟨A', c', rfl, how⟩, hb⟩
    obtain ⟨Φ', a1, a2, a3, a4⟩ := owned_ints hΦ hb how
    exact ⟨_, Φ', rfl, a1, a2, by simpa [val_copy] using a3, hb, a4⟩
  · cases hp
theorem clone_own : OwnOK Try.prog 74 pre_copyn val_copyo := by
  intro args os x os' ext hp hval
  unfold pre_copyn at hp
  split at hp
  · rename_i t xs
    simp only [Bool.and_eq_true, decide_eq_true_eq, Bool.not_eq_true'] at hp
    obtain ⟨⟨h1, h2⟩, h3⟩ := hp
    obtain ⟨zs, rfl⟩ := nums_of h1
    have hn : zs.length ≤ 1000000 := by simpa using h2
    have hpos : zs ≠ [] := by rintro rfl; simp at h3
    simp only [val_copyo, Prod.mk.injEq] at hval
    obtain ⟨rfl, rfl, rfl⟩ := hval
    refine ⟨rfl, fun μ Φ w vs hg hv => ?_⟩
    obtain ⟨v, rfl⟩ : ∃ v, vs = #[v] := by
      have := hv.1
      simp at this
      obtain ⟨l⟩ := vs
      match l, this with
      | [v], _ => exact ⟨v, rfl⟩
    have h0 := R_pv (hv.2 0 v _ rfl rfl)
    obtain ⟨A, c, rfl, hr⟩ := row_ints h0 hg.phi
    refine (Clone_any A zs.length c zs w hr hn).mono ?_
    rintro e w' ⟨⟨A', c', rfl, how⟩, hb⟩
    have hμ : ∀ l n, μ l n = none := fun l n => hg.fresh l n (.inl (by simp [objs]))
    rcases how.2 with ⟨_, h0⟩ | ⟨g, cap, cur, hv', hg', hh, k1, k2, k3, k4⟩
    · exact absurd (List.length_eq_zero_iff.1 h0) hpos
    · simp only [Value.slice.injEq] at hv'
      obtain ⟨rfl, _, rfl⟩ := hv'
      have hl : (nums zs).length = zs.length := nums_length zs
      refine ⟨_, fun l n => if l = 0 ∧ n = zs.length then some (g, c', 1) else none, Φ, rfl, ?_, ?_⟩
      · have hs : ∀ (l : Nat) o, (objs ([] ++ [AObj.row false 3 1 (nums zs)]))[l]? = some (Slot.obj o) → l = 0 ∧ o = .row false 3 1 (nums zs) := by
          intro l o h
          match l with
          | 0 => simp [objs] at h; exact ⟨rfl, h.symm⟩
          | l + 1 => simp [objs] at h
        have hblk : blk (fun l n => if l = 0 ∧ n = zs.length then some (g, c', 1) else none) 0 (.row false 3 1 (nums zs)) = g := by simp [blk]
        have hok : PhiOK Φ w' := fun b cs hc => by
          obtain ⟨T, fz, hh⟩ := hg.phi b cs hc
          exact ⟨T, fz, (hb.block b (Array.getElem?_eq_some_iff.1 hh).1).trans hh⟩
        refine ⟨hok, ?_, ?_, ?_, ?_, hb.os, hb.tape, hb.output, hb.size, fun b h1 h2 => hb.block b h1, Phi.le.refl _, fun l n z h => (by rw [show (entry μ Φ (objs []) w).μ0 = μ from rfl, hμ] at h; cases h), fun b cs h => .inl h⟩
        · intro l o h
          obtain ⟨rfl, rfl⟩ := hs l o h
          refine ⟨g, c', cur, by simp, fun n hn => if_neg (by simp; omega), hh, k3, by omega, k2, ?_, ?_, ?_, ?_⟩
          · intro x hx; obtain ⟨z, _, rfl⟩ := List.mem_map.1 hx; rfl
          · rw [hl, k4, flat_nums]
            refine ⟨by simp, fun j v x hv hx => ?_⟩
            rw [List.getElem?_map] at hv
            rw [nums_getElem?] at hx
            cases hz : zs[j]? with
            | none => rw [hz] at hv; cases hv
            | some z => rw [hz] at hv hx; cases hv; cases hx; exact .int _ _
          · rw [hl, k4]
            intro v hv
            obtain ⟨z, _, rfl⟩ := List.mem_map.1 hv
            rfl
          · rw [if_neg (by simp)]
            cases hp : Φ g with
            | none => rfl
            | some cs =>
              obtain ⟨T, fz, hh'⟩ := hg.phi g cs hp
              have := (Array.getElem?_eq_some_iff.1 hh').1
              omega
        · intro l l' o o' hne h1 h2
          obtain ⟨rfl, _⟩ := hs l o h1
          obtain ⟨rfl, _⟩ := hs l' o' h2
          exact absurd rfl hne
        · intro l n h
          refine if_neg ?_
          rintro ⟨rfl, _⟩
          rcases h with h | h <;> simp [objs] at h
        · intro l o h
          obtain ⟨rfl, rfl⟩ := hs l o h
          rw [hblk]
          exact .inl hg'
      · have := R.row (μ := fun l n => if l = 0 ∧ n = zs.length then some (g, c', 1) else none) (Φ := Φ) 0 zs.length 0 zs.length g c' 1 (some ⟨g, 0, none⟩) (by simp) (Nat.zero_le _) (Nat.le_refl _) (by omega) (fun _ => by simp)
        simpa [hl] using this
  · cases hp
set_option maxHeartbeats 1000000 in
theorem Clone_zero (A : Option Addr) (c : Nat) (w : World) :
    Calls Try.prog 74 #[.slice A 0 c] w fun e w' => (∃ A', e = .returned (.slice A' 0 0)) ∧ Below w.heap.size w w' := by
  obtain ⟨i0, hi, hz0, hz1, hz2⟩ := info_parts info_i
  have HI := Lib.hid hi
  have HZ1 := Lib.hid hz1
  clear hi hz0 hz1 hz2
  have hnil := fun (W : World) (a : Option Addr) (l k : Nat) => Lib.run_eql_slice_nil (P := Try.prog) W 28 3 a l k 0 0 under_is
  cases A with
  | none =>
    go_enter Try.func74, Try.ntmps74
    go_wp2
    go_ret
    exact ⟨⟨_, rfl⟩, Below.refl _ _⟩
  | some ad =>
    go_enter Try.func74, Try.ntmps74
    go_wp2_with (first
      | (at_builtin; refine wpList_append_own_spare _ rfl _ _ 28 rfl w.heap.size 3 i0 1 under_is HI.out HZ1.out w.heap.size 0 0 [] rfl (World.ownsRow_made w #[] 0 (Nat.le_refl _) (by unfold maxLen; omega) rfl) ad 0 c [] rfl rfl (by simp) (by simp) (Nat.le_refl _) ?_)
      | fail)
    intro w1 hown' hgrow
    have hbl' : Below w.heap.size w w1 := ((Below.refl _ _).alloc (Nat.le_refl _) _).grown hgrow (by simp) (by rintro _ ⟨⟩; exact Nat.le_refl _)
    clear hgrow
    go_wp2
    go_ret
    exact ⟨⟨_, rfl⟩, hbl'⟩
theorem clone_zero : OwnOK Try.prog 74 pre_copyz val_copyz := by
  intro args os x os' ext hp hval
  unfold pre_copyz at hp
  split at hp
  · rename_i t xs
    have : xs = [] := List.isEmpty_iff.1 hp
    subst this
    simp only [val_copyz, Prod.mk.injEq] at hval
    obtain ⟨rfl, rfl, rfl⟩ := hval
    refine ⟨rfl, fun μ Φ w vs hg hv => ?_⟩
    obtain ⟨v, rfl⟩ : ∃ v, vs = #[v] := by
      have := hv.1
      simp at this
      obtain ⟨l⟩ := vs
      match l, this with
      | [v], _ => exact ⟨v, rfl⟩
    have h0 := R_pv (hv.2 0 v _ rfl rfl)
    obtain ⟨A, c, rfl, hr⟩ := row_ints (zs := []) h0 hg.phi
    refine (Clone_zero A c w).mono ?_
    rintro e w' ⟨⟨A', rfl⟩, hb⟩
    exact ⟨_, μ, Φ, rfl, hg.below hb (Phi.le.refl _) (fun b cs hc => by
      obtain ⟨T, fz, hh⟩ := hg.phi b cs hc
      exact ⟨T, fz, (hb.block b (Array.getElem?_eq_some_iff.1 hh).1).trans hh⟩) (fun b cs h => .inl h), .pv _ _ (.sl0 _ _ _ _ fun _ => rfl)⟩
  · cases hp
end Go.Proofs.Ytpdpkmihgelmoaa

namespace Go.Proofs.Ytpdpkmihgelmoaa
open Go.Pl
set_option maxRecDepth 100000
theorem mixo : Try.prog.follows .mixedOrders = true := by kernel_rfl
theorem ok_index : PureOK Try.prog 108 pre_contains val_index := pure_ic (T := T_index) (ic := ic_index) (rs := rs_index) tab_nil mixo Try.func108 (by kernel_rfl) (by kernel_rfl) (by kernel_rfl) index_run
theorem ok_contains : PureOK Try.prog 80 pre_contains val_contains := pure_ic (T := T_contains) (ic := ic_contains) (rs := rs_contains) (tab_cons (ent Try.func108 (by kernel_rfl) ok_index) tab_nil) mixo Try.func80 (by kernel_rfl) (by kernel_rfl) (by kernel_rfl) contains_run
theorem ok_size : PureOK Try.prog 73 pre_size val_size := pure_ic (T := T_size) (ic := ic_size) (rs := rs_size) (tab_cons (ent Try.func80 (by kernel_rfl) ok_contains) tab_nil) mixo Try.func73 (by kernel_rfl) (by kernel_rfl) (by kernel_rfl) size_run
theorem ok_rsize : PureOK Try.prog 35 pre_size val_size := pure_ic (T := T_rsize) (ic := ic_rsize) (rs := rs_rsize) tab_nil mixo Try.func35 (by kernel_rfl) (by kernel_rfl) (by kernel_rfl) rsize_run
theorem ok_ints : PureOK Try.prog 29 pre_ints val_ints := pure_ic (T := T_ints) (ic := ic_ints) (rs := rs_ints) tab_nil mixo Try.func29 (by kernel_rfl) (by kernel_rfl) (by kernel_rfl) ints_run
theorem ok_copy : PureOK Try.prog 75 pre_copy val_copy := pure_ic (T := T_copy) (ic := ic_copy) (rs := rs_copy) tab_nil mixo Try.func75 (by kernel_rfl) (by kernel_rfl) (by kernel_rfl) copy_run
theorem ok_formed : PureOK Try.prog 76 pre_v1 val_formed := pure_ic (T := T_formed) (ic := ic_formed) (rs := rs_formed) (tab_cons (ent Try.func35 (by kernel_rfl) ok_rsize) (tab_cons (ent Try.func73 (by kernel_rfl) ok_size) tab_nil)) mixo Try.func76 (by kernel_rfl) (by kernel_rfl) (by kernel_rfl) formed_run
theorem ok_form : PureOK Try.prog 78 pre_v1 val_form := pure_ic (T := T_form) (ic := ic_form) (rs := rs_form) (tab_cons (ent Try.func35 (by kernel_rfl) ok_rsize) (tab_cons (ent Try.func73 (by kernel_rfl) ok_size) tab_nil)) mixo Try.func78 (by kernel_rfl) (by kernel_rfl) (by kernel_rfl) form_run
theorem ok_off : PureOK Try.prog 77 pre_off val_off := pure_ic (T := T_off) (ic := ic_off) (rs := rs_off) (tab_cons (ent Try.func73 (by kernel_rfl) ok_size) tab_nil) mixo Try.func77 (by kernel_rfl) (by kernel_rfl) (by kernel_rfl) off_run
theorem ok_roff : PureOK Try.prog 79 pre_off val_off := pure_ic (T := T_roff) (ic := ic_roff) (rs := rs_roff) (tab_cons (ent Try.func35 (by kernel_rfl) ok_rsize) tab_nil) mixo Try.func79 (by kernel_rfl) (by kernel_rfl) (by kernel_rfl) roff_run
theorem ok_at : PureOK Try.prog 24 pre_at val_at := pure_ic (T := T_at) (ic := ic_at) (rs := rs_at) (tab_cons (ent Try.func76 (by kernel_rfl) ok_formed) (tab_cons (ent Try.func77 (by kernel_rfl) ok_off) tab_nil)) mixo Try.func24 (by kernel_rfl) (by kernel_rfl) (by kernel_rfl) at_run
theorem ok_rat : PureOK Try.prog 25 pre_at val_at := pure_ic (T := T_rat) (ic := ic_rat) (rs := rs_rat) (tab_cons (ent Try.func78 (by kernel_rfl) ok_form) (tab_cons (ent Try.func79 (by kernel_rfl) ok_roff) tab_nil)) mixo Try.func25 (by kernel_rfl) (by kernel_rfl) (by kernel_rfl) rat_run
theorem ok_few : PureOK Try.prog 21 pre_v1 val_few := pure_ic (T := T_few) (ic := ic_few) (rs := rs_few) (tab_cons (ent Try.func35 (by kernel_rfl) ok_rsize) tab_nil) mixo Try.func21 (by kernel_rfl) (by kernel_rfl) (by kernel_rfl) few_run
theorem ok_aidx : PureOK Try.prog 110 pre_idx val_idx := pure_ic (T := T_aidx) (ic := ic_aidx) (rs := rs_aidx) (tab_cons (ent Try.func73 (by kernel_rfl) ok_size) tab_nil) mixo Try.func110 (by kernel_rfl) (by kernel_rfl) (by kernel_rfl) aidx_run
theorem ok_ridx : PureOK Try.prog 82 pre_idx val_idx := pure_ic (T := T_ridx) (ic := ic_ridx) (rs := rs_ridx) (tab_cons (ent Try.func35 (by kernel_rfl) ok_rsize) tab_nil) mixo Try.func82 (by kernel_rfl) (by kernel_rfl) (by kernel_rfl) ridx_run
theorem ok_valid : PureOK Try.prog 27 pre_valid val_valid := pure_ic (T := T_valid) (ic := ic_valid) (rs := rs_valid) (tab_cons (ent Try.func76 (by kernel_rfl) ok_formed) (tab_cons (ent Try.func80 (by kernel_rfl) ok_contains) tab_nil)) mixo Try.func27 (by kernel_rfl) (by kernel_rfl) (by kernel_rfl) valid_run
theorem ok_rvalid : PureOK Try.prog 28 pre_valid val_valid := pure_ic (T := T_rvalid) (ic := ic_rvalid) (rs := rs_rvalid) (tab_cons (ent Try.func78 (by kernel_rfl) ok_form) (tab_cons (ent Try.func35 (by kernel_rfl) ok_rsize) tab_nil)) mixo Try.func28 (by kernel_rfl) (by kernel_rfl) (by kernel_rfl) rvalid_run
theorem ok_put : OwnOK Try.prog 89 pre_put val_put := own_ic (T := T_put) (ic := ic_put) (rs := rs_put) tab_nil mixo Try.func89 (by kernel_rfl) (by kernel_rfl) (by kernel_rfl) put_run
end Go.Proofs.Ytpdpkmihgelmoaa

namespace Go.Proofs.Ytpdpkmihgelmoaa
open Go.RowKit Go.Shelf Go.Pl
attribute [local go_sem] Oper.semAt_some
theorem RP_tup2 {Φ : Phi} {v : Value} {a b : PV} (h : RP Φ v (.tup [a, b])) : ∃ x y, v = .tuple #[x, y] ∧ RP Φ x a ∧ RP Φ y b := by
  cases h with
  | tup cs _ hn hr =>
    obtain ⟨l⟩ := cs
    match l, hn with
    | [x, y], _ => exact ⟨x, y, rfl, hr 0 x a rfl rfl, hr 1 y b rfl rfl⟩
theorem RPL1 {Φ : Phi} {v : Value} {p : PV} (h : RP Φ v p) : RPL Φ (#[v] : Array Value).toList [p] := ⟨rfl, fun j x q hx hq => match j with
  | 0 => by cases hx; cases hq; exact h
  | j + 1 => by simp at hx⟩
theorem RPL2 {Φ : Phi} {v u : Value} {p q : PV} (h : RP Φ v p) (k : RP Φ u q) : RPL Φ (#[v, u] : Array Value).toList [p, q] := ⟨rfl, fun j x r hx hr => match j with
  | 0 => by cases hx; cases hr; exact h
  | 1 => by cases hx; cases hr; exact k
  | j + 2 => by simp at hx⟩
theorem RP_view {Φ : Phi} {o : Int} {d s : List Int} {t u : Bool} {sv tv : Value} (h : RP Φ sv (.sl 1 t (nums d))) (k : RP Φ tv (.sl 1 u (nums s))) (h1 : sv.oneCell' = true) (k1 : tv.oneCell' = true) :
    RP Φ (.agg #[.int .i64 o, sv, tv]) (.agg [.int .i64 o, .sl 1 t (nums d), .sl 1 u (nums s)]) :=
  .agg _ _ rfl (by intro v hv; simp at hv; rcases hv with rfl | rfl | rfl; rfl; exact h1; exact k1) fun j v x hv hx => match j with
    | 0 => by cases hv; cases hx; exact .int _ _
    | 1 => by cases hv; cases hx; exact h
    | 2 => by cases hv; cases hx; exact k
    | j + 3 => by simp at hv
theorem call_size {Φ : Phi} {W : World} {sv : Value} {t : Bool} {d : List Int} (hΦ : PhiOK Φ W) (h : RP Φ sv (.sl 1 t (nums d))) :
    Calls Try.prog 73 #[sv] W fun e w' => e = .returned (.tuple #[.int .i64 (sizeB d).1, .int .i64 (sizeB d).2]) ∧ Below W.heap.size W w' := by
  refine (ok_size [.sl 1 t (nums d)] (by simp [pre_size]) Φ W #[sv] hΦ (RPL1 h)).mono ?_
  rintro e w' ⟨v, Φ', rfl, _, _, hr, hb, _⟩
  obtain ⟨x, y, rfl, hx, hy⟩ := RP_tup2 hr
  rw [RP_int hx, RP_int hy]
  exact ⟨by simp [asInt_nums], hb⟩
theorem call_idx {Φ : Phi} {W : World} {sv : Value} {t : Bool} {d : List Int} {k : Int} (hΦ : PhiOK Φ W) (h : RP Φ sv (.sl 1 t (nums d))) (he : idxE d k = 0) :
    Calls Try.prog 110 #[sv, .int .i64 k] W fun e w' => ∃ A n c Φ', e = .returned (.tuple #[.slice A n c, .int .i64 0]) ∧ Phi.le Φ Φ' ∧ PhiOK Φ' w' ∧ RP Φ' (.slice A n c) (.sl 1 false (nums (idxR d k).2)) ∧ Below W.heap.size W w' := by
  refine (ok_aidx [.sl 1 t (nums d), .int .i64 k] (by simp [pre_idx]) Φ W #[sv, .int .i64 k] hΦ (RPL2 h (.int _ _))).mono ?_
  rintro e w' ⟨v, Φ', rfl, hle, hok, hr, hb, _⟩
  simp only [val_idx, sl_ns, PV.asInt, he] at hr
  obtain ⟨x, y, rfl, hx, hy⟩ := RP_tup2 hr
  rw [RP_int hy]
  obtain ⟨A, c, rfl, _⟩ := row_ints hx hok
  exact ⟨A, _, c, Φ', rfl, hle, hok, hx, hb⟩
theorem call_at {Φ : Phi} {W : World} {o : Int} {sv tv iv : Value} {t u b : Bool} {d s ix : List Int} (hΦ : PhiOK Φ W) (h : RP Φ sv (.sl 1 t (nums d))) (k : RP Φ tv (.sl 1 u (nums s))) (h1 : sv.oneCell' = true) (k1 : tv.oneCell' = true)
    (hd : d.length ≤ 9223372036854775807) (hs : s.length ≤ 9223372036854775807) (hi : RP Φ iv (.sl 1 b (nums ix))) :
    Calls Try.prog 24 #[.agg #[.int .i64 o, sv, tv], iv] W fun e w' => e = .returned (.tuple #[.int .i64 (atB o d s ix).1, .int .i64 (atB o d s ix).2]) ∧ Below W.heap.size W w' := by
  refine (ok_at [.agg [.int .i64 o, .sl 1 t (nums d), .sl 1 u (nums s)], .sl 1 b (nums ix)] (by simp [pre_at, pre_view_of o d s t u hd hs]) Φ W _ hΦ (RPL2 (RP_view h k h1 k1) hi)).mono ?_
  rintro e w' ⟨v, Φ', rfl, _, _, hr, hb, _⟩
  simp only [val_at, vw_O, vw_D, vw_S, sl_ns] at hr
  obtain ⟨x, y, rfl, hx, hy⟩ := RP_tup2 hr
  rw [RP_int hx, RP_int hy]
  exact ⟨rfl, hb⟩
def KpB (n₀ Bn : Nat) (W W' : World) : Prop := Below n₀ W W' ∧ W'.heap[Bn]? = W.heap[Bn]?
theorem KpB.trans {n₀ Bn : Nat} {A B C : World} (h : KpB n₀ Bn A B) (k : KpB n₀ Bn B C) : KpB n₀ Bn A C := ⟨h.1.trans k.1, k.2.trans h.2⟩
theorem KpB.refl (n₀ Bn : Nat) (A : World) : KpB n₀ Bn A A := ⟨Below.refl _ _, rfl⟩
theorem grown_of_below {W W' : World} (h : Below W.heap.size W W') : W.grownBy W' none := ⟨h.os, h.tape, h.output, h.size, fun k hk _ => h.block k hk⟩
theorem KpB.of_below {n₀ Bn : Nat} {W W' : World} (h : Below W.heap.size W W') (hn : n₀ ≤ W.heap.size) (hb : Bn < W.heap.size) : KpB n₀ Bn W W' := ⟨h.mono hn, h.block _ hb⟩
theorem phi_below {Φ : Phi} {n₀ : Nat} {W W' : World} (h : PhiOK Φ W) (hd : ∀ b cs, Φ b = some cs → b < n₀) (hb : Below n₀ W W') : PhiOK Φ W' := fun b cs hc => by
  obtain ⟨T, fz, hh⟩ := h b cs hc
  exact ⟨T, fz, (hb.block b (hd b cs hc)).trans hh⟩
theorem box_cell {W : World} {Bn : Nat} {cs : Array Value} {T : TypeId} (h : W.heap[Bn]? = some (.cells cs T (0, 0))) (j : Nat) (v : Value) (hv : cs[j]? = some v) : W.cell? ⟨Bn, j, none⟩ = some v := by simp [World.cell?, h, hv]
set_option maxRecDepth 100000 in
set_option maxHeartbeats 4000000 in
theorem offs_iter (n l Bn n₀ : Nat) (hn : 1 ≤ n) (o : Int) (d s : List Int) (t u : Bool) (sv tv : Value) (T : TypeId) (Φ : Phi) (hdom : ∀ b cs, Φ b = some cs → b < n₀) (h : RP Φ sv (.sl 1 t (nums d))) (hu : RP Φ tv (.sl 1 u (nums s))) (h1 : sv.oneCell' = true) (k1 : tv.oneCell' = true)
    (hf : formB d s = true) (N : Nat) (hN : (sizeB d).1 = (N : Int)) (hN2 : N ≤ 4096) (J Jx : List Int → World → Prop) (W : World) (hJ : AbidesFrom W.heap.size J)
    (hY : ∀ pre x W1, J pre W1 → pre.length < N → YieldAt Fence.wide (n - 1) Try.prog l #[.int .i64 x] W1 fun e W' =>
      (e = .returned (.bool true) ∧ J (pre ++ [x]) W' ∧ KpB n₀ Bn W1 W') ∨ (e = .returned (.bool false) ∧ Jx (pre ++ [x]) W'))
    (hΦ : PhiOK Φ W) (hn₀ : n₀ ≤ W.heap.size) (hbox : W.heap[Bn]? = some (.cells #[.int .i64 o, sv, tv] T (0, 0))) (h0 : J [] W) :
    CallsIn Fence.wide n Try.prog 109 #[.func (.yield l) #[] #[], .pointer (some ⟨Bn, 0, none⟩)] W fun e W' => (∃ v, e = .returned v) ∧ ((∃ ys, ys = oset o d s N ∧ J ys W') ∨ (∃ pre, True ∧ Jx pre W')) := by
  have hlen : d.length ≤ 9223372036854775807 ∧ s.length ≤ 9223372036854775807 := by have := form_ok hf; omega
  have hBn := (Array.getElem?_eq_some_iff.1 hbox).1
  have hc0 : W.cell? ⟨Bn, 0, none⟩ = some (.int .i64 o) := box_cell hbox 0 _ rfl
  have hc1 : W.cell? ⟨Bn, 1, none⟩ = some sv := box_cell hbox 1 _ rfl
  have hc2 : W.cell? ⟨Bn, 2, none⟩ = some tv := box_cell hbox 2 _ rfl
  have hS := call_size hΦ h
  rw [hN] at hS
  refine callsIn_of_wp Try.func109 rfl trivial ?_ rfl
  simp only [Try.ntmps109, List.size_toArray, List.length_cons, List.length_nil, Nat.reduceAdd, Nat.reduceSub, Array.replicate_succ, Array.replicate_zero, List.push_toArray, List.append_toArray, List.nil_append, List.cons_append]
  gi_wp2_with (refine ⟨trivial, ?_⟩; gi_at_call 73; refine (callsIn_wide.2 hS).mono ?_; rintro e w1 ⟨rfl, hb1⟩)
  have hj1 := hJ [] W w1 none h0 (grown_of_below hb1) (fun r e => by cases e)
  have hk1 : KpB n₀ Bn W w1 := KpB.of_below hb1 hn₀ hBn
  have hs1 := hb1.size
  clear hc0 hc1 hc2 hb1
  gi_loopw [17] (fun i wr => ∃ k : Nat, k ≤ N ∧ i = .int .i64 k ∧ J (oset o d s k) wr ∧ KpB n₀ Bn W wr ∧ W.heap.size ≤ wr.heap.size) (fun i _ => N - (intOf i).toNat)
  case atStart => exact ⟨0, Nat.zero_le _, rfl, hj1, hk1, hs1⟩
  case round =>
    obtain ⟨k, hk, rfl, hJs, hnx, hsz⟩ := hrel
    have hbr : wr.heap[Bn]? = some (.cells #[.int .i64 o, sv, tv] T (0, 0)) := hnx.2.trans hbox
    have hΦr := phi_below hΦ hdom hnx.1
    have hc0 : wr.cell? ⟨Bn, 0, none⟩ = some (.int .i64 o) := box_cell hbr 0 _ rfl
    have hc1 : wr.cell? ⟨Bn, 1, none⟩ = some sv := box_cell hbr 1 _ rfl
    have hc2 : wr.cell? ⟨Bn, 2, none⟩ = some tv := box_cell hbr 2 _ rfl
    by_cases hlt : k < N
    · have he : idxE d (k : Int) = 0 := idxE_lt hf (by omega) (by omega)
      gi_wp2_with (first
        | (refine ⟨trivial, ?_⟩; gi_at_call 110; refine (callsIn_wide.2 (call_idx hΦr h he)).mono ?_; rintro e w2 ⟨A, n1, c1, Φ1, rfl, hle1, hΦ1, hix, hb2⟩
           have hbx2 := (hb2.block Bn (by omega)).trans hbr
           have hd0 : w2.cell? ⟨Bn, 0, none⟩ = some (.int .i64 o) := box_cell hbx2 0 _ rfl
           have hd1 : w2.cell? ⟨Bn, 1, none⟩ = some sv := box_cell hbx2 1 _ rfl
           have hd2 : w2.cell? ⟨Bn, 2, none⟩ = some tv := box_cell hbx2 2 _ rfl)
        | (refine ⟨trivial, ?_⟩; gi_at_call 24; refine (callsIn_wide.2 (call_at hΦ1 (h.mono hle1) (hu.mono hle1) h1 k1 hlen.1 hlen.2 hix)).mono ?_; rintro e w3 ⟨rfl, hb3⟩
           have hJ3 : J (oset o d s k) w3 := hJ _ _ _ none (hJ _ _ _ none hJs (grown_of_below hb2) (fun r e => by cases e)) (grown_of_below hb3) (fun r e => by cases e)
           obtain ⟨fn, tmps, assign, body, hy, hR⟩ := hY _ (atB o d s (idxR d (k : Int)).2).1 w3 hJ3 (by rw [oset_length]; exact hlt))
        | fail)
      refine hR.mono ?_
      have hs2 := hb2.size
      have hs3 := hb3.size
      have hk3 : KpB n₀ Bn W w3 := (hnx.trans (KpB.of_below hb2 (by omega) (by omega))).trans (KpB.of_below hb3 (by omega) (by omega))
      rintro e W4 (⟨rfl, hJ4, hk4⟩ | ⟨rfl, hJx4⟩)
      · have hs4 := hk4.1.size
        gi_wp2
        go_roundw
        case rel => exact ⟨k + 1, by omega, by simp, by rw [oset_succ]; exact hJ4, hk3.trans hk4, by omega⟩
        case measure => simp [intOf]; omega
      · gi_wp2
        refine bodyPost_ret (results_none rfl _ _ _) rfl ?_
        exact ⟨⟨_, rfl⟩, .inr ⟨_, trivial, hJx4⟩⟩
    · obtain rfl : k = N := by omega
      gi_wp2
      go_end0
      exact ⟨⟨_, rfl⟩, .inl ⟨_, rfl, hJs⟩⟩
theorem offs_stops (n Bn n₀ : Nat) (hn : 1 ≤ n) (o : Int) (d s : List Int) (t u : Bool) (sv tv : Value) (T : TypeId) (Φ : Phi) (hdom : ∀ b cs, Φ b = some cs → b < n₀) (h : RP Φ sv (.sl 1 t (nums d))) (hu : RP Φ tv (.sl 1 u (nums s))) (h1 : sv.oneCell' = true) (k1 : tv.oneCell' = true)
    (hf : formB d s = true) (N : Nat) (hN : (sizeB d).1 = (N : Int)) (hN2 : N ≤ 4096) (w : World) (hΦ : PhiOK Φ w) (hn₀ : n₀ ≤ w.heap.size) (hbox : w.heap[Bn]? = some (.cells #[.int .i64 o, sv, tv] T (0, 0))) :
    SeqStopsK Fence.wide n Try.prog 109 #[.pointer (some ⟨Bn, 0, none⟩)] (fun x : Int => #[Value.int .i64 x]) (KpB n₀ Bn) (fun ys => ys = oset o d s N) (fun _ => True) N w := fun l J Jx W hW hJ hJx hY h0 =>
  offs_iter n l Bn n₀ hn o d s t u sv tv T Φ hdom h hu h1 k1 hf N hN hN2 J Jx W hJ hY (phi_below hΦ hdom (hW.mono hn₀)) (Nat.le_trans hn₀ hW.size) ((hW.block _ (Array.getElem?_eq_some_iff.1 hbox).1).trans hbox) h0
end Go.Proofs.Ytpdpkmihgelmoaa

namespace Go.Proofs.Ytpdpkmihgelmoaa
open Go.RowKit Go.Shelf Go.Pl
attribute [local go_sem] Oper.semAt_some
theorem call_formed {Φ : Phi} {W : World} {o : Int} {sv tv : Value} {t u : Bool} {d s : List Int} (hΦ : PhiOK Φ W) (h : RP Φ sv (.sl 1 t (nums d))) (k : RP Φ tv (.sl 1 u (nums s))) (h1 : sv.oneCell' = true) (k1 : tv.oneCell' = true)
    (hd : d.length ≤ 9223372036854775807) (hs : s.length ≤ 9223372036854775807) :
    Calls Try.prog 76 #[.agg #[.int .i64 o, sv, tv]] W fun e w' => e = .returned (.bool (formB d s)) ∧ Below W.heap.size W w' := by
  refine (ok_formed [.agg [.int .i64 o, .sl 1 t (nums d), .sl 1 u (nums s)]] (by simp [pre_v1, pre_view_of o d s t u hd hs]) Φ W _ hΦ (RPL1 (RP_view h k h1 k1))).mono ?_
  rintro e w' ⟨v, Φ', rfl, _, _, hr, hb, _⟩
  simp only [val_formed, vw_D, vw_S] at hr
  cases hr
  exact ⟨rfl, hb⟩
set_option maxHeartbeats 1000000 in
theorem call_offsets (o : Int) (sv tv : Value) (h1 : sv.oneCell' = true) (k1 : tv.oneCell' = true) (W : World) :
    Calls Try.prog 81 #[.agg #[.int .i64 o, sv, tv]] W fun e w' => ∃ B, e = .returned (.func (.func 109) #[] #[.pointer (some ⟨B, 0, none⟩)]) ∧ w'.heap[B]? = some (.cells #[.int .i64 o, sv, tv] 33 (0, 0)) ∧ W.heap.size ≤ B ∧ Below W.heap.size W w' := by
  go_enter Try.func81, Try.ntmps81
  go_wp2
  go_ret
  exact ⟨_, rfl, World.alloc_heap_new W _, Nat.le_refl _, (Below.refl _ _).alloc (Nat.le_refl _) _⟩
theorem infoI : (Try.prog.info? 3).map (fun i => (i.zero, i.size, i.bytes)) = some (some (.int .i64 0), 1, 8) := by kernel_rfl
set_option maxRecDepth 100000 in
set_option maxHeartbeats 4000000 in
theorem Offsets_some (o : Int) (d s : List Int) (t u : Bool) (sv tv : Value) (Φ : Phi) (w : World) (hΦ : PhiOK Φ w) (h : RP Φ sv (.sl 1 t (nums d))) (hu : RP Φ tv (.sl 1 u (nums s))) (h1 : sv.oneCell' = true) (k1 : tv.oneCell' = true)
    (hd : d.length ≤ 9223372036854775807) (hs : s.length ≤ 9223372036854775807) :
    CallsIn Fence.wide 4 Try.prog 30 #[.agg #[.int .i64 o, sv, tv]] w fun e W' => ∃ v, e = .returned v ∧ W'.ownsRow w.heap.size 3 1 v (offsB o d s).length ((offsB o d s).map (Value.int .i64)) ∧ Below w.heap.size w W' := by
  obtain ⟨i0, hi, hz0, hz1, hz2⟩ := info_parts infoI
  have hdom : ∀ b cs, Φ b = some cs → b < w.heap.size := fun b cs hc => by
    obtain ⟨T, fz, hh⟩ := hΦ b cs hc
    exact (Array.getElem?_eq_some_iff.1 hh).1
  have hF := fun (W : World) (hb : Below w.heap.size w W) => call_formed (phi_below hΦ hdom hb) h hu h1 k1 hd hs (o := o)
  have hb1 : Below w.heap.size w ((w.alloc (.cells #[.int .i64 o, sv, tv] 33)).alloc (.cells #[.slice none 0 0] 28)) := ((Below.refl _ w).alloc (Nat.le_refl _) _).alloc (by simp) _
  have bV0 : ((w.alloc (.cells #[.int .i64 o, sv, tv] 33)).alloc (.cells #[.slice none 0 0] 28)).heap[w.heap.size]? = some (.cells #[.int .i64 o, sv, tv] 33 (0, 0)) :=
    (Below.heap_alloc _ _ _ (by simp)).trans (World.alloc_heap_new w _)
  have bO0 : Boxed ((w.alloc (.cells #[.int .i64 o, sv, tv] 33)).alloc (.cells #[.slice none 0 0] 28)) (w.heap.size + 1) 28 (.slice none 0 0) := by
    have := Boxed.new (w.alloc (.cells #[.int .i64 o, sv, tv] 33)) 28 (.slice none 0 0)
    rwa [World.size_alloc] at this
  have hsz0 : ((w.alloc (.cells #[.int .i64 o, sv, tv] 33)).alloc (.cells #[.slice none 0 0] 28)).heap.size = w.heap.size + 2 := by simp
  refine callsIn_of_wp_marks Try.func30 rfl trivial ?_ rfl
  simp only [Try.ntmps30, List.size_toArray, List.length_cons, List.length_nil, Nat.reduceAdd, Nat.reduceSub, Array.replicate_succ, Array.replicate_zero, List.push_toArray, List.append_toArray, List.nil_append, List.cons_append]
  cases hf : formB d s with
  | false =>
    rw [hf] at hF
    gi_wp2_with (first
      | (refine ⟨trivial, ?_⟩; gi_at_call 76; refine (callsIn_wide.2 (hF _ hb1)).mono ?_; rintro e w2 ⟨rfl, hb2⟩)
      | fail)
    have hb : Below w.heap.size w w2 := hb1.trans (hb2.mono (by omega))
    exact ⟨_, results_tmp rfl _ _ _, _, rfl, by simp only [offsB, hf, cond_false]; exact World.ownsRow_nil _ _ _ _, hb⟩
  | true =>
    obtain ⟨N, hN⟩ : ∃ N : Nat, (sizeB d).1 = N := ⟨(sizeB d).1.toNat, by have := size_nonneg (d := d); omega⟩
    have hN2 : N ≤ 4096 := by have := size_le (d := d); omega
    have hoff : offsB o d s = oset o d s N := by simp [offsB, hf, hN]
    rw [hf] at hF
    gi_wp2_with (first
      | (refine ⟨trivial, ?_⟩; gi_at_call 76; refine (callsIn_wide.2 (hF _ hb1)).mono ?_; rintro e w2 ⟨rfl, hb2⟩
         have bV2 := (hb2.block w.heap.size (by omega)).trans bV0
         have bO2 : Boxed w2 (w.heap.size + 1) 28 (.slice none 0 0) := (hb2.block (w.heap.size + 1) (by omega)).trans bO0
         have hd0 : w2.cell? ⟨w.heap.size, 0, none⟩ = some (.int .i64 o) := box_cell bV2 0 _ rfl
         have hd1 : w2.cell? ⟨w.heap.size, 1, none⟩ = some sv := box_cell bV2 1 _ rfl
         have hd2 : w2.cell? ⟨w.heap.size, 2, none⟩ = some tv := box_cell bV2 2 _ rfl)
      | (refine ⟨trivial, ?_⟩; gi_at_call 81; refine (callsIn_wide.2 (call_offsets o sv tv h1 k1 w2)).mono ?_; rintro e w3 ⟨Bn, rfl, bV3, hBn, hb3⟩)
      | fail)
    have hb02 : Below w.heap.size w w2 := hb1.trans (hb2.mono (by omega))
    have hb03 : Below w.heap.size w w3 := hb02.trans (hb3.mono hb02.size)
    have hs2 := hb2.size
    have hs3 := hb3.size
    have bO3 : Boxed w3 (w.heap.size + 1) 28 (.slice none 0 0) := (hb3.block (w.heap.size + 1) (by omega)).trans bO2
    have hBn3 := (Array.getElem?_eq_some_iff.1 bV3).1
    refine wpIn_rangeFunc_ownG rfl (by omega) (gf := 109) (lb := #[.pointer (some ⟨Bn, 0, none⟩)]) rfl trivial (enters_of Try.func109 (by kernel_rfl) rfl)
      (offs_stops (4 - 1) Bn w.heap.size (by omega) o d s t u sv tv 33 Φ hdom h hu h1 k1 hf N hN hN2 w3 (phi_below hΦ hdom hb03) hb03.size bV3) KpB.trans
      (fun W l o o' hl hW ho _ => ⟨belowK_b hb03.size W l o o' hl hW ho (by cases o <;> first | rfl | simp_all), World.putObj_heap_other (by omega)⟩) (Below.refl _ _) (fun _ => rfl)
      (fun pre W => ((∃ v, Boxed W (w.heap.size + 1) 28 v ∧ W.ownsRow w.heap.size 3 1 v pre.length (pre.map (Value.int .i64)) ∧ True) ∧ W.heap[Bn]? = some (.cells #[.int .i64 o, sv, tv] 33 (0, 0))) ∧ Below w.heap.size w W)
      (fun _ _ _ => False)
      (OwnFrom.and (OwnFrom.and (Own.from (holdsRow_own w.heap.size (w.heap.size + 1) 28 3 1 (fun (pre : List Int) => pre.length) (fun pre => pre.map (Value.int .i64)) (fun _ _ => True)) _)
        (fun s A B row hs hg hr => (hg.block Bn (Array.getElem?_eq_some_iff.1 hs).1 (fun e => by obtain ⟨_, o, ho, hc⟩ := hr Bn e.symm; rw [hs] at ho; cases ho; cases hc)).trans hs)) (ownFrom_below (Nat.le_refl _) hb03.size))
      (fun _ _ _ _ _ hs _ _ => hs)
      ⟨⟨⟨_, bO3, World.ownsRow_nil _ _ _ _, trivial⟩, bV3⟩, hb03⟩
      (fun x => { tmps := #[.agg #[.int .i64 o, sv, tv], .pointer (some ⟨w.heap.size, 0, none⟩), .slice none 0 0, .pointer (some ⟨w.heap.size + 1, 0, none⟩), .int .i64 x, .agg #[.int .i64 o, sv, tv], .bool true, .bool false, .agg #[.int .i64 o, sv, tv], .func (.func 109) #[] #[.pointer (some ⟨Bn, 0, none⟩)], .int .i64 x, undef, undef, undef, undef, undef], defers := [] }) ?assign ?body ?done ?stop
    case assign =>
      intro l x W K hK
      gi_wp2
      exact hK
    case body =>
      rintro l pre x W ⟨⟨⟨v, hv, hrow, _⟩, bV⟩, hB⟩ hlt
      have hc := hv.cell
      gi_wp2_with (gi_at_builtin; refine wpListIn_append_own _ rfl _ _ 28 rfl w.heap.size 3 i0 (.int .i64 0) 1 8 under_is hi hz0 hz1 hz2 rfl (by decide) _ _ _ rfl (hrow.alloc _) ⟨W.heap.size, 0, none⟩ 1 1 [.int .i64 x] rfl rfl (cell_one_new _ _ _) (by simp [Value.oneCell']) (by unfold maxLen; omega) (by omega) (by have := hB.size; simp; omega) ?_; intro v' w1 hown' hgrow _; obtain ⟨g', cap', rfl⟩ := ownsRow_succ hown'; obtain ⟨hv1, hv2, hr2, hk2, hb2⟩ := hv.appended (by decide) hrow hB.size (by omega) hown' hgrow; have hc1 := hv1.cell; have hf1 := hv1.frozen)
      have hne : ∀ k, v.ownBlock = some k → k ≠ Bn := by
        rintro k hk rfl
        rcases hrow.2 with ⟨rfl, _⟩ | ⟨g, cap, cur, rfl, _, hgb, _⟩
        · cases hk
        · cases hk
          rw [bV] at hgb
          cases hgb
      have hBlt := (Array.getElem?_eq_some_iff.1 bV).1
      have e1 : w1.heap[Bn]? = W.heap[Bn]? := (hgrow.block Bn (by simp; omega) (fun e => hne Bn e.symm rfl)).trans (Below.heap_alloc _ _ _ hBlt)
      have e2 : (w1.setCell ⟨w.heap.size + 1, 0, none⟩ (.slice (some ⟨g', 0, none⟩) (pre.length + 1) cap')).heap[Bn]? = W.heap[Bn]? := (Below.heap_setCell _ _ _ Bn (by show Bn ≠ w.heap.size + 1; omega)).trans e1
      exact ⟨hk2.from _, ⟨hb2, e2⟩, ⟨⟨_, hv2, by simpa using hr2, trivial⟩, e2.trans bV⟩, hB.trans hb2⟩
    case done =>
      rintro D ys W hD rfl ⟨⟨⟨v, hv, hrow, _⟩, bV⟩, hB⟩ hK
      have hc := hv.cell
      gi_wp2
      refine ⟨by simp, .inl ⟨_, _, rfl, run_takeDeferred hK, ?_⟩⟩
      exact ⟨_, results_tmp rfl _ _ _, v, rfl, by rw [hoff]; exact ownsRow_putObj hrow _ hK rfl, hB.trans (belowK_b (w := w) (Nat.le_refl _) W D _ _ (by omega) hK rfl rfl)⟩
    case stop =>
      rintro D c pre W _ _ h _
      exact h.elim
theorem offsets_pure : PureOK Try.prog 30 pre_v1 val_offs := by
  intro ps hp Φ w vs hΦ hv
  unfold pre_v1 at hp
  split at hp
  · rename_i p
    obtain ⟨o, d, s, t, u, rfl, hd, hs⟩ := view_of hp
    obtain ⟨v, rfl⟩ : ∃ v, vs = #[v] := by
      have := hv.1
      simp at this
      obtain ⟨l⟩ := vs
      match l, this with
      | [v], _ => exact ⟨v, rfl⟩
    have h0 := hv.2 0 v _ rfl rfl
    cases h0 with
    | agg cs _ hn ho hr =>
      obtain ⟨l⟩ := cs
      match l, hn with
      | [a, sv, tv], _ =>
        have ha := RP_int (hr 0 a _ rfl rfl)
        subst ha
        have h1 := hr 1 sv _ rfl rfl
        have h2 := hr 2 tv _ rfl rfl
        refine (callsIn_wide.1 (Offsets_some o d s t u sv tv Φ w hΦ h1 h2 (ho sv (by simp)) (ho tv (by simp)) hd hs)).mono ?_
        rintro e w' ⟨v, rfl, how, hb⟩
        obtain ⟨Φ', a1, a2, a3, a4⟩ := owned_ints hΦ hb how
        exact ⟨v, Φ', rfl, a1, a2, by simpa only [val_offs, vw_O, vw_D, vw_S] using a3, hb, a4⟩
  · cases hp
end Go.Proofs.Ytpdpkmihgelmoaa

namespace Go.Proofs.Ytpdpkmihgelmoaa
open Go.Pl
set_option maxRecDepth 100000
theorem ok_of : PureOK Try.prog 22 pre_size val_of := pure_ic (T := T_of) (ic := ic_of) (rs := rs_of) (tab_cons (ent Try.func73 (by kernel_rfl) ok_size) (tab_cons (ent Try.func74 (by kernel_rfl) clone_pure) tab_nil)) mixo Try.func22 (by kernel_rfl) (by kernel_rfl) (by kernel_rfl) of_run
theorem ok_of2 : PureOK Try.prog 22 pre_size val_of2 := ok_of.sub (fun _ h => h) of2_sub
theorem ok_put0 : OwnOK Try.prog 89 pre_put0 val_put0 := own_ic (T := T_put0) (ic := ic_put0) (rs := rs_put0) tab_nil mixo Try.func89 (by kernel_rfl) (by kernel_rfl) (by kernel_rfl) put0_run
theorem ok_putc : OwnOK Try.prog 89 pre_putc val_putc := by
  refine OwnOK.or (pre1 := fun a o => pre_putc a o && pre_put0 a o) (pre2 := fun a o => pre_putc a o && pre_put a o) (ok_put0.congr (fun a o h => ?_) (fun a o h => ?_)) (ok_put.congr (fun a o h => ?_) (fun a o h => ?_)) (fun a o h => ?_)
  · simp only [Bool.and_eq_true] at h; exact h.2
  · simp only [Bool.and_eq_true] at h
    have h2 := h.2
    unfold pre_put0 at h2
    split at h2
    · rfl
    · cases h2
  · simp only [Bool.and_eq_true] at h; exact h.2
  · simp only [Bool.and_eq_true] at h
    have h2 := h.2
    unfold pre_put at h2
    split at h2
    · rfl
    · cases h2
  · have h' := h
    unfold pre_putc at h'
    split at h'
    · exact .inl (by simp [h, h'])
    · exact .inr (by simp [h, h'])
theorem ok_wind1 : OwnOK Try.prog 101 (pre1 1) (val1 1 windC) := own_ic (T := T_wind1) (ic := ic_wind1) (rs := rs_wind1) (tab_cons (ent Try.func89 (by kernel_rfl) ok_put) tab_nil) mixo Try.func101 (by kernel_rfl) (by kernel_rfl) (by kernel_rfl) wind1_run
theorem ok_wind1p : OwnOK Try.prog 101 (pre1 1) (val1p windC) := ok_wind1.congr (fun _ _ h => h) (fun _ _ h => val1_eq _ h)
theorem ok_wind0 : OwnOK Try.prog 101 (pre_c1z 1) (val_c1z windC) := own_icF (T := T_wind0) (ic := ic_wind0) (rs := rs_wind0) (tab_cons (ent Try.func89 (by kernel_rfl) ok_putc) tab_nil) mixo Try.func101 (by kernel_rfl) (by kernel_rfl) (by kernel_rfl) wind0_run
theorem ok_swind : OwnOK Try.prog 87 (pre_sn1 101 1) (val_st1 windC 1) := own_icF (T := T_swind) (ic := ic_swind) (rs := rs_swind) (tab_cons (ent Try.func76 (by kernel_rfl) ok_formed) (tab_cons (ent Try.func74 (by kernel_rfl) clone_own) (tab_cons (ent Try.func73 (by kernel_rfl) ok_size) (tab_cons (ent Try.func101 (by kernel_rfl) ok_wind1p) tab_nil)))) mixo Try.func87 (by kernel_rfl) (by kernel_rfl) (by kernel_rfl) swind_run
theorem ok_zwind : OwnOK Try.prog 87 (pre_sz1 101 1) (val_st1 windC 1) := own_icF (T := T_zwind) (ic := ic_zwind) (rs := rs_zwind) (tab_cons (ent Try.func76 (by kernel_rfl) ok_formed) (tab_cons (ent Try.func74 (by kernel_rfl) clone_zero) (tab_cons (ent Try.func73 (by kernel_rfl) ok_size) (tab_cons (ent Try.func101 (by kernel_rfl) ok_wind0) tab_nil)))) mixo Try.func87 (by kernel_rfl) (by kernel_rfl) (by kernel_rfl) zwind_run
theorem ok_step_wind : OwnOK Try.prog 87 (pre_st1 101 1) (val_st1 windC 1) := ok_swind.or ok_zwind (st1_cases _ _)
theorem ok_wind : PureOK Try.prog 60 pre_sv1 (val_sv1 windC 1) := pure_ic (T := T_wind) (ic := ic_wind) (rs := rs_wind) (tab_cons (ent Try.func87 (by kernel_rfl) ok_step_wind) tab_nil) mixo Try.func60 (by kernel_rfl) (by kernel_rfl) (by kernel_rfl) wind_run
theorem ok_tran1 : OwnOK Try.prog 90 (pre0 2) (val0 2 tranC) := own_ic (T := T_tran1) (ic := ic_tran1) (rs := rs_tran1) (tab_cons (ent Try.func89 (by kernel_rfl) ok_put) tab_nil) mixo Try.func90 (by kernel_rfl) (by kernel_rfl) (by kernel_rfl) tran1_run
theorem ok_tran1p : OwnOK Try.prog 90 (pre0 2) (val0p tranC) := ok_tran1.congr (fun _ _ h => h) (fun _ _ h => val0_eq _ h)
theorem ok_tran0 : OwnOK Try.prog 90 (pre_c0z 2) (val_c0z tranC) := own_icF (T := T_tran0) (ic := ic_tran0) (rs := rs_tran0) (tab_cons (ent Try.func89 (by kernel_rfl) ok_putc) tab_nil) mixo Try.func90 (by kernel_rfl) (by kernel_rfl) (by kernel_rfl) tran0_run
theorem ok_stran : OwnOK Try.prog 87 (pre_sn0 90 2) (val_st0 tranC 2) := own_icF (T := T_stran) (ic := ic_stran) (rs := rs_stran) (tab_cons (ent Try.func76 (by kernel_rfl) ok_formed) (tab_cons (ent Try.func74 (by kernel_rfl) clone_own) (tab_cons (ent Try.func73 (by kernel_rfl) ok_size) (tab_cons (ent Try.func90 (by kernel_rfl) ok_tran1p) tab_nil)))) mixo Try.func87 (by kernel_rfl) (by kernel_rfl) (by kernel_rfl) stran_run
theorem ok_ztran : OwnOK Try.prog 87 (pre_sz0 90 2) (val_st0 tranC 2) := own_icF (T := T_ztran) (ic := ic_ztran) (rs := rs_ztran) (tab_cons (ent Try.func76 (by kernel_rfl) ok_formed) (tab_cons (ent Try.func74 (by kernel_rfl) clone_zero) (tab_cons (ent Try.func73 (by kernel_rfl) ok_size) (tab_cons (ent Try.func90 (by kernel_rfl) ok_tran0) tab_nil)))) mixo Try.func87 (by kernel_rfl) (by kernel_rfl) (by kernel_rfl) ztran_run
theorem ok_step_tran : OwnOK Try.prog 87 (pre_st0 90 2) (val_st0 tranC 2) := ok_stran.or ok_ztran (st0_cases _ _)
theorem ok_tran : PureOK Try.prog 37 pre_v1 (val_sv0 tranC 2) := pure_ic (T := T_tran) (ic := ic_tran) (rs := rs_tran) (tab_cons (ent Try.func87 (by kernel_rfl) ok_step_tran) tab_nil) mixo Try.func37 (by kernel_rfl) (by kernel_rfl) (by kernel_rfl) tran_run
theorem ok_roffs : PureOK Try.prog 31 pre_v1 val_offs := pure_icS (T := T_roffs) (ic := ic_roffs) (rs := rs_roffs) (tab_cons (ent Try.func78 (by kernel_rfl) ok_form) (tab_cons (ent Try.func35 (by kernel_rfl) ok_rsize) (tab_cons (ent Try.func82 (by kernel_rfl) ok_ridx) (tab_cons (ent Try.func25 (by kernel_rfl) ok_rat) tab_nil)))) mixo Try.func31 (by kernel_rfl) (by kernel_rfl) (by kernel_rfl) roffs_run
theorem ok_awake : PureOK Try.prog 20 pre_nil val_true := pure_ic (T := T_awake) (ic := ic_awake) (rs := rs_awake) (tab_cons (ent Try.func22 (by kernel_rfl) ok_of2) (tab_cons (ent Try.func37 (by kernel_rfl) ok_tran) (tab_cons (ent Try.func60 (by kernel_rfl) ok_wind) (tab_cons (ent Try.func29 (by kernel_rfl) ok_ints) (tab_cons (ent Try.func30 (by kernel_rfl) offsets_pure) (tab_cons (ent Try.func27 (by kernel_rfl) ok_valid) tab_nil)))))) mixo Try.func20 (by kernel_rfl) (by kernel_rfl) (by kernel_rfl) awake_run
end Go.Proofs.Ytpdpkmihgelmoaa

namespace Go.Proofs.Ytpdpkmihgelmoaa
open Go.RowKit Go.Shelf Go.Pl
open Enc (enc dec is)
attribute [local go_sem] Oper.semAt_some
theorem phi_grow {Φ : Phi} {w w' : World} (h : PhiOK Φ w) (hb : Below w.heap.size w w') : PhiOK Φ w' := fun b cs hc => by
  obtain ⟨T, fz, hh⟩ := h b cs hc
  exact ⟨T, fz, (hb.block b (Array.getElem?_eq_some_iff.1 hh).1).trans hh⟩
theorem phi_cell {Φ : Phi} {w : World} (h : PhiOK Φ w) {Bn : Nat} {cs : Array Value} (hb : Φ Bn = some cs) (j : Nat) (v : Value) (hv : cs[j]? = some v) : w.cell? ⟨Bn, j, none⟩ = some v := by
  obtain ⟨T, fz, hh⟩ := h Bn cs hb
  simp [World.cell?, hh, hv]
theorem oset_get {o : Int} {d s : List Int} {N k : Nat} (h : k < N) : (oset o d s N)[k]? = some (atB o d s (idxR d (k : Int)).2).1 := by simp [oset, h]
set_option maxRecDepth 100000 in
set_option maxHeartbeats 4000000 in
theorem offs_iter2 (n l Bn : Nat) (hn : 1 ≤ n) (o : Int) (d s : List Int) (t u : Bool) (sv tv : Value) (Φ : Phi) (hbn : Φ Bn = some #[.int .i64 o, sv, tv]) (h : RP Φ sv (.sl 1 t (nums d))) (hu : RP Φ tv (.sl 1 u (nums s))) (h1 : sv.oneCell' = true) (k1 : tv.oneCell' = true)
    (hf : formB d s = true) (N : Nat) (hN : (sizeB d).1 = (N : Int)) (hN2 : N ≤ 4096) (J : Nat → World → Prop) (Jx : World → Prop) (W : World) (hJ : AbidesFrom W.heap.size J)
    (hY : ∀ k x W1, (oset o d s N)[k]? = some x → J k W1 → YieldAt Fence.wide (n - 1) Try.prog l #[.int .i64 x] W1 fun e W' =>
      (e = .returned (.bool true) ∧ J (k + 1) W' ∧ KpPhi Φ W1 W') ∨ (e = .returned (.bool false) ∧ Jx W'))
    (hΦ : PhiOK Φ W) (h0 : J 0 W) :
    CallsIn Fence.wide n Try.prog 109 #[.func (.yield l) #[] #[], .pointer (some ⟨Bn, 0, none⟩)] W fun e W' => (∃ v, e = .returned v) ∧ (J (oset o d s N).length W' ∨ Jx W') := by
  have hlen : d.length ≤ 9223372036854775807 ∧ s.length ≤ 9223372036854775807 := by have := form_ok hf; omega
  have hc0 : W.cell? ⟨Bn, 0, none⟩ = some (.int .i64 o) := phi_cell hΦ hbn 0 _ rfl
  have hc1 : W.cell? ⟨Bn, 1, none⟩ = some sv := phi_cell hΦ hbn 1 _ rfl
  have hc2 : W.cell? ⟨Bn, 2, none⟩ = some tv := phi_cell hΦ hbn 2 _ rfl
  have hS := call_size hΦ h
  rw [hN] at hS
  refine callsIn_of_wp Try.func109 rfl trivial ?_ rfl
  simp only [Try.ntmps109, List.size_toArray, List.length_cons, List.length_nil, Nat.reduceAdd, Nat.reduceSub, Array.replicate_succ, Array.replicate_zero, List.push_toArray, List.append_toArray, List.nil_append, List.cons_append]
  gi_wp2_with (refine ⟨trivial, ?_⟩; gi_at_call 73; refine (callsIn_wide.2 hS).mono ?_; rintro e w1 ⟨rfl, hb1⟩)
  have hj1 := hJ 0 W w1 none h0 (grown_of_below hb1) (fun r e => by cases e)
  have hp1 : PhiOK Φ w1 := phi_grow hΦ hb1
  clear hc0 hc1 hc2 hb1
  gi_loopw [17] (fun i wr => ∃ k : Nat, k ≤ N ∧ i = .int .i64 k ∧ J k wr ∧ PhiOK Φ wr) (fun i _ => N - (intOf i).toNat)
  case atStart => exact ⟨0, Nat.zero_le _, rfl, hj1, hp1⟩
  case round =>
    obtain ⟨k, hk, rfl, hJs, hΦr⟩ := hrel
    have hc0 : wr.cell? ⟨Bn, 0, none⟩ = some (.int .i64 o) := phi_cell hΦr hbn 0 _ rfl
    have hc1 : wr.cell? ⟨Bn, 1, none⟩ = some sv := phi_cell hΦr hbn 1 _ rfl
    have hc2 : wr.cell? ⟨Bn, 2, none⟩ = some tv := phi_cell hΦr hbn 2 _ rfl
    by_cases hlt : k < N
    · have he : idxE d (k : Int) = 0 := idxE_lt hf (by omega) (by omega)
      have hx : (oset o d s N)[k]? = some (atB o d s (idxR d (k : Int)).2).1 := oset_get hlt
      gi_wp2_with (first
        | (refine ⟨trivial, ?_⟩; gi_at_call 110; refine (callsIn_wide.2 (call_idx hΦr h he)).mono ?_; rintro e w2 ⟨A, n1, c1, Φ1, rfl, hle1, hΦ1, hix, hb2⟩
           have hp2 : PhiOK Φ w2 := phi_grow hΦr hb2
           have hd0 : w2.cell? ⟨Bn, 0, none⟩ = some (.int .i64 o) := phi_cell hp2 hbn 0 _ rfl
           have hd1 : w2.cell? ⟨Bn, 1, none⟩ = some sv := phi_cell hp2 hbn 1 _ rfl
           have hd2 : w2.cell? ⟨Bn, 2, none⟩ = some tv := phi_cell hp2 hbn 2 _ rfl)
        | (refine ⟨trivial, ?_⟩; gi_at_call 24; refine (callsIn_wide.2 (call_at hΦ1 (h.mono hle1) (hu.mono hle1) h1 k1 hlen.1 hlen.2 hix)).mono ?_; rintro e w3 ⟨rfl, hb3⟩
           have hp3 : PhiOK Φ w3 := phi_grow hp2 hb3
           have hJ3 : J k w3 := hJ _ _ _ none (hJ _ _ _ none hJs (grown_of_below hb2) (fun r e => by cases e)) (grown_of_below hb3) (fun r e => by cases e)
           obtain ⟨fn, tmps, assign, body, hy, hR⟩ := hY k _ w3 hx hJ3)
        | fail)
      refine hR.mono ?_
      rintro e W4 (⟨rfl, hJ4, hk4⟩ | ⟨rfl, hJx4⟩)
      · have hp4 := hk4 hp3
        gi_wp2
        go_roundw
        case rel => exact ⟨k + 1, by omega, by simp, hJ4, hp4⟩
        case measure => simp [intOf]; omega
      · gi_wp2
        refine bodyPost_ret (results_none rfl _ _ _) rfl ?_
        exact ⟨⟨_, rfl⟩, .inr hJx4⟩
    · obtain rfl : k = N := by omega
      gi_wp2
      go_end0
      exact ⟨⟨_, rfl⟩, .inl (by rw [oset_length]; exact hJs)⟩
theorem offs_IterOK : IterOK Try.prog 109 (fun x : Int => #[Value.int .i64 x]) pre_it F_it := by
  refine ⟨⟨_, Try.func109, rfl, rfl⟩, ?_⟩
  intro pss hpre Φ w lb hΦ hcaps n hn
  unfold pre_it at hpre
  split at hpre
  · rename_i ps
    simp only [Bool.and_eq_true] at hpre
    obtain ⟨⟨hv, _⟩, hf⟩ := hpre
    obtain ⟨lb⟩ := lb
    match lb, hcaps.1 with
    | [b], _ =>
      obtain ⟨Bn, cs, rfl, hB, hr, hones⟩ := hcaps.2 0 b ps rfl rfl
      have hagg : RP Φ (.agg cs) (.agg ps) := .agg cs ps (by have := hr.1; simpa using this) (fun v hv => hones v (by simpa using hv)) (fun j v x hv hx => hr.2 j v x (by simpa using hv) hx)
      have hsub := (Enc.sub (α := View) _ hv).2 _ _ hagg
      generalize hdv : (dec (PV.agg ps) : View) = v at hsub hf
      obtain ⟨o, d, s⟩ := v
      have : RP Φ (.agg cs) (.agg [.int .i64 o, .sl 1 false (nums d), .sl 1 false (nums s)]) := hsub
      cases this with
      | agg _ _ hn2 ho hr2 =>
        obtain ⟨l⟩ := cs
        match l, hn2 with
        | [x, sv, tv], _ =>
          have hx := RP_int (hr2 0 x _ rfl rfl)
          subst hx
          have hN := size_nonneg (d := d)
          have hN' := size_le (d := d)
          have hFit : F_it [ps] = oset o d s (sizeB d).1.toNat := by
            show offsT (dec (PV.agg ps)) = _
            rw [hdv]
            simp only [offsT, offsB]
            have hf' : formB d s = true := hf
            simp [hf']
          rw [hFit]
          intro l J Jx W hW hJ hJx hY h0
          exact offs_iter2 n l Bn hn o d s false false sv tv Φ hB (hr2 1 sv _ rfl rfl) (hr2 2 tv _ rfl rfl) (ho sv (by simp)) (ho tv (by simp)) hf _ (by omega) (by omega) J Jx W hJ hY (phi_grow hΦ hW) h0
  · cases hpre
end Go.Proofs.Ytpdpkmihgelmoaa

namespace Go.Pl
open Go.RowKit Go.WideShapes Go.ChangeShapes
def Φof (w : World) : Phi := fun b => match w.heap[b]? with | some (.cells cs _ _) => some cs | _ => none
theorem Φof_ok (w : World) : PhiOK (Φof w) w := fun b cs h => by
  unfold Φof at h
  split at h
  · rename_i c T fz hb
    cases h
    exact ⟨T, fz, hb⟩
  · cases h
def mkV (P : Program) (e : TypeId) (ps : List PV) : PV := match aggT P e with | true => .agg ps | false => ps.headD .nilp
def fits (P : Program) : Nat → TypeId → List PV → Prop
  | 0, _, _ => False
  | n + 1, t, ps => match P.underlying t with
    | some .bool => ∃ b, ps = [.bool b]
    | some (.int k) => ∃ m, ps = [.int k m] ∧ (Lit.int k m).wf = true
    | some .string => ∃ s : List UInt8, ps = [.str s] ∧ s.length ≤ maxLen
    | some (.slice e) => ∃ qs : List (List PV), ps = [.sl (P.cellsOf e) false (qs.map (mkV P e))] ∧ qs.length ≤ maxLen ∧ ∀ q ∈ qs, q.length = P.cellsOf e ∧ fits P n e q
    | some (.struct fs) => ps.length = P.cellsOf t ∧ ∀ f ∈ fs.toList, fits P n f.type ((ps.drop f.offset).take (P.cellsOf f.type))
    | some (.array m e) => ps.length = P.cellsOf t ∧ ∀ i < m, fits P n e ((ps.drop (i * P.cellsOf e)).take (P.cellsOf e))
    | _ => False
def contig (P : Program) : Nat → List Field → Nat → Bool
  | o, [], n => o == n
  | o, f :: fs, n => f.offset == o && contig P (o + P.cellsOf f.type) fs n
def plainT (P : Program) (S : List TypeId) : Bool := S.all fun t => match P.underlying t with
  | some .bool | some (.int _) | some .string => P.cellsOf t == 1
  | some (.slice e) => P.cellsOf t == 1 && S.contains e && decide (0 < P.cellsOf e) && (aggT P e || P.cellsOf e == 1)
  | some (.struct fs) => contig P 0 fs.toList (P.cellsOf t) && fs.toList.all fun f => S.contains f.type
  | some (.array m e) => S.contains e && m * P.cellsOf e == P.cellsOf t
  | _ => false
section
variable {H : Type} {enc : TypeId × Value → H} {P : Program} {w : World} {base : Nat} {sp : Nat → Bool} {held : Bool} {S : List TypeId}
theorem mapM_get {α β : Type} {f : α → Option β} : ∀ {l : List α} {r : List β}, l.mapM f = some r → r.length = l.length ∧ ∀ (j : Nat) x y, l[j]? = some x → r[j]? = some y → f x = some y := by
  intro l
  induction l with
  | nil => intro r h; simp at h; subst h; exact ⟨rfl, fun j x y h => by simp at h⟩
  | cons a l ih =>
    intro r h
    simp only [List.mapM_cons, Option.bind_eq_bind, Option.bind_eq_some_iff] at h
    obtain ⟨b, hb, bs, hbs, h⟩ := h
    simp at h
    subst h
    obtain ⟨h1, h2⟩ := ih hbs
    refine ⟨by simp [h1], fun j x y hx hy => ?_⟩
    cases j with
    | zero => cases hx; cases hy; exact hb
    | succ j => exact h2 j x y hx hy
def Cl (w : World) (cs : List Value) (ps : List PV) : Prop := RPL (Φof w) cs ps ∧ Ones cs
theorem Cl.one {v : Value} {p : PV} (h : RP (Φof w) v p) (h1 : v.oneCell' = true) : Cl w [v] [p] := ⟨⟨rfl, fun j x q hx hq => match j with
  | 0 => by cases hx; cases hq; exact h
  | j + 1 => by simp at hx⟩, fun v hv => by simp at hv; subst hv; exact h1⟩
theorem Cl.append {cs ds : List Value} {ps qs : List PV} (h : Cl w cs ps) (k : Cl w ds qs) : Cl w (cs ++ ds) (ps ++ qs) := by
  refine ⟨⟨by simp [h.1.1, k.1.1], fun j v p hv hp => ?_⟩, fun v hv => ?_⟩
  · by_cases hj : j < cs.length
    · rw [List.getElem?_append_left hj] at hv
      rw [List.getElem?_append_left (by rw [← h.1.1]; exact hj)] at hp
      exact h.1.2 j v p hv hp
    · rw [List.getElem?_append_right (by omega)] at hv
      rw [List.getElem?_append_right (by rw [← h.1.1]; omega), ← h.1.1] at hp
      exact k.1.2 _ v p hv hp
  · rcases List.mem_append.1 hv with h' | h'
    · exact h.2 v h'
    · exact k.2 v h'
theorem Cl.nil : Cl w [] [] := ⟨⟨rfl, fun j v p h => by simp at h⟩, fun v h => by simp at h⟩
theorem plain_mem (hS : plainT P S = true) {t : TypeId} (ht : t ∈ S) : (match P.underlying t with
  | some .bool | some (.int _) | some .string => P.cellsOf t == 1
  | some (.slice e) => P.cellsOf t == 1 && S.contains e && decide (0 < P.cellsOf e) && (aggT P e || P.cellsOf e == 1)
  | some (.struct fs) => contig P 0 fs.toList (P.cellsOf t) && fs.toList.all fun f => S.contains f.type
  | some (.array m e) => S.contains e && m * P.cellsOf e == P.cellsOf t
  | _ => false) = true := List.all_eq_true.1 hS t ht
theorem fields_fits {n : Nat} {cs : List Value} (ih : ∀ (t : TypeId) (cs : List Value) (x : DataW H × List MemPlace), t ∈ S → DataW.trod enc P w base sp held n t cs = some x → ∃ ps, Cl w cs ps ∧ fits P n t ps) :
    ∀ (fs : List Field) (o N : Nat) (xs : List (DataW H × List MemPlace)), contig P o fs N = true → (∀ f ∈ fs, f.type ∈ S) → cs.length = N → o ≤ N →
      fs.mapM (fun f => DataW.trod enc P w base sp held n f.type ((cs.drop f.offset).take (P.cellsOf f.type))) = some xs →
      ∃ ps, Cl w (cs.drop o) ps ∧ ∀ qs : List PV, qs.length = o → ∀ f ∈ fs, fits P n f.type (((qs ++ ps).drop f.offset).take (P.cellsOf f.type)) := by
  intro fs
  induction fs with
  | nil =>
    intro o N xs hc _ hl ho _
    simp [contig] at hc
    refine ⟨[], ?_, fun qs _ f hf => by simp at hf⟩
    rw [List.drop_of_length_le (by omega)]
    exact Cl.nil
  | cons f fs ihf =>
    intro o N xs hc hm hl ho h
    simp only [contig, Bool.and_eq_true, beq_iff_eq] at hc
    obtain ⟨hfo, hc⟩ := hc
    simp only [List.mapM_cons, Option.bind_eq_bind, Option.bind_eq_some_iff] at h
    obtain ⟨x, hx, xs', hxs, _⟩ := h
    obtain ⟨p1, k1, k2⟩ := ih _ _ x (hm f List.mem_cons_self) hx
    have hle : o + P.cellsOf f.type ≤ N := by
      have : ∀ (fs : List Field) (a : Nat), contig P a fs N = true → a ≤ N := by
        intro fs
        induction fs with
        | nil => intro a h; simp [contig] at h; omega
        | cons g fs ih => intro a h; simp only [contig, Bool.and_eq_true] at h; have := ih _ h.2; omega
      exact this _ _ hc
    obtain ⟨p2, k3, k4⟩ := ihf (o + P.cellsOf f.type) N xs' hc (fun g hg => hm g (List.mem_cons_of_mem _ hg)) hl hle hxs
    have hp1 : p1.length = P.cellsOf f.type := by
      rw [← k1.1.1, List.length_take, List.length_drop, hfo]
      omega
    refine ⟨p1 ++ p2, ?_, fun qs hq g hg => ?_⟩
    · have := k1.append k3
      rw [hfo] at this
      have e : cs.drop o = (cs.drop o).take (P.cellsOf f.type) ++ cs.drop (o + P.cellsOf f.type) := by rw [← List.drop_drop, List.take_append_drop]
      rw [e]
      exact this
    · rcases List.mem_cons.1 hg with rfl | hg
      · rw [hfo, ← hq, List.drop_left, ← hp1, List.take_left]
        exact k2
      · have := k4 (qs ++ p1) (by simp [hq, hp1]) g hg
        rwa [List.append_assoc] at this
theorem pieces_fits {n m sz : Nat} {e : TypeId} (he : P.cellsOf e = sz) {cs : List Value} (ih : ∀ i, i < m → ∃ ps, Cl w ((cs.drop (i * sz)).take sz) ps ∧ fits P n e ps) (hl : cs.length = m * sz) :
    ∃ ps, Cl w cs ps ∧ ∀ i < m, fits P n e ((ps.drop (i * sz)).take sz) := by
  induction m generalizing cs with
  | zero =>
    have : cs = [] := List.length_eq_zero_iff.1 (by omega)
    subst this
    exact ⟨[], Cl.nil, fun i h => by omega⟩
  | succ m ihm =>
    obtain ⟨p1, k1, k2⟩ := ih 0 (by omega)
    simp only [Nat.zero_mul, List.drop_zero] at k1
    have hl1 : p1.length = sz := by
      rw [← k1.1.1, List.length_take, hl, Nat.succ_mul]
      omega
    obtain ⟨p2, k3, k4⟩ := ihm (cs := cs.drop sz) (fun i hi => by
      have := ih (i + 1) (by omega)
      rwa [Nat.succ_mul, Nat.add_comm, ← List.drop_drop] at this) (by rw [List.length_drop, hl, Nat.succ_mul]; omega)
    refine ⟨p1 ++ p2, by have := k1.append k3; rwa [List.take_append_drop] at this, fun i hi => ?_⟩
    cases i with
    | zero =>
      simp only [Nat.zero_mul, List.drop_zero]
      rw [← hl1, List.take_left]
      exact k2
    | succ i =>
      have := k4 i (by omega)
      have e2 : (p1 ++ p2).drop ((i + 1) * sz) = p2.drop (i * sz) := by
        rw [Nat.succ_mul, Nat.add_comm, ← List.drop_drop]
        congr 1
        rw [← hl1, List.drop_left]
      rwa [e2]
theorem mkV_cells {e : TypeId} {q : List PV} (h : aggT P e = true ∨ P.cellsOf e = 1) (hl : q.length = P.cellsOf e) (h1 : aggT P e = false → ∀ p ∈ q, p.cells = [p]) : (mkV P e q).cells = q := by
  unfold mkV
  cases ha : aggT P e with
  | true => rfl
  | false =>
    rcases h with h | h
    · rw [h] at ha; cases ha
    · rw [h] at hl
      match q, hl with
      | [p], _ => exact h1 ha p (by simp)
theorem fits_one {n : Nat} {e : TypeId} {q : List PV} (h : fits P n e q) (ha : aggT P e = false) : ∀ p ∈ q, p.cells = [p] := by
  cases n with
  | zero => exact h.elim
  | succ n =>
    unfold fits at h
    unfold aggT at ha
    split at h
    · obtain ⟨b, rfl⟩ := h; intro p hp; simp at hp; subst hp; rfl
    · obtain ⟨m, rfl, _⟩ := h; intro p hp; simp at hp; subst hp; rfl
    · obtain ⟨s, rfl, _⟩ := h; intro p hp; simp at hp; subst hp; rfl
    · obtain ⟨s, rfl, _⟩ := h; intro p hp; simp at hp; subst hp; rfl
    · rename_i hu; rw [hu] at ha; cases ha
    · rename_i hu; rw [hu] at ha; cases ha
    · exact h.elim
theorem choose_list {α : Type} {R : Nat → α → Prop} : ∀ (n : Nat), (∀ i, i < n → ∃ q, R i q) → ∃ qs : List α, qs.length = n ∧ ∀ (i : Nat) q, qs[i]? = some q → R i q := by
  intro n
  induction n with
  | zero => intro _; exact ⟨[], rfl, fun i q h => by simp at h⟩
  | succ n ih =>
    intro h
    obtain ⟨qs, h1, h2⟩ := ih fun i hi => h i (by omega)
    obtain ⟨q, hq⟩ := h n (by omega)
    refine ⟨qs ++ [q], by simp [h1], fun i q' hi => ?_⟩
    by_cases hlt : i < qs.length
    · rw [List.getElem?_append_left hlt] at hi; exact h2 i q' hi
    · rw [List.getElem?_append_right (by omega)] at hi
      have : i = n := by
        have := (List.getElem?_eq_some_iff.1 hi).1
        simp at this
        omega
      subst this
      rw [h1, Nat.sub_self] at hi
      cases hi
      exact hq
theorem addr_add2 (a : Addr) (i j : Nat) : (a.add i).add j = a.add (i + j) := by
  unfold Addr.add
  by_cases hi : i = 0 <;> by_cases hj : j = 0 <;> simp [hi, hj, Nat.add_assoc]
theorem cells_get {base n : Nat} {a : Addr} {cs : List Value} (h : w.cells? base a n = some cs) : cs.length = n ∧ ∀ (r : Nat) v, cs[r]? = some v → w.cell? (a.add r) = some v := by
  unfold World.cells? at h
  split at h
  · obtain ⟨h1, h2⟩ := mapM_get h
    refine ⟨by simpa using h1, fun r v hv => ?_⟩
    have hr := (List.getElem?_eq_some_iff.1 hv).1
    have hr2 : r < n := by rw [h1] at hr; simpa using hr
    exact h2 r r v (by simp [hr2]) hv
  · cases h
theorem cell_addr {a : Addr} {v : Value} (h : w.cell? a = some v) : ∃ b off cs, a = ⟨b, off, none⟩ ∧ Φof w b = some cs ∧ cs[off]? = some v := by
  obtain ⟨b, off, spot⟩ := a
  unfold World.cell? at h
  split at h
  · rename_i c T fz hb
    split at h
    · cases h
    · rename_i hs
      have : spot = none := by cases spot with | none => rfl | some => simp at hs
      subst this
      exact ⟨b, off, c, rfl, by simp only [Φof]; rw [hb], h⟩
  · cases h
theorem slice_fits {n : Nat} {e : TypeId} {a : Addr} {len cap : Nat} {xs : List (DataW H × List MemPlace)} (hsz : 0 < P.cellsOf e) (hag : aggT P e = true ∨ P.cellsOf e = 1) (hcap : len ≤ cap) (hmax : cap ≤ maxLen)
    (ih : ∀ (cs : List Value) (x : DataW H × List MemPlace), DataW.trod enc P w base sp held n e cs = some x → ∃ ps, Cl w cs ps ∧ fits P n e ps)
    (h : (List.range len).mapM (fun i => (w.cells? base (a.add (i * P.cellsOf e)) (P.cellsOf e)).bind (DataW.trod enc P w base sp held n e)) = some xs) :
    ∃ qs : List (List PV), RP (Φof w) (.slice (some a) len cap) (.sl (P.cellsOf e) false (qs.map (mkV P e))) ∧ qs.length ≤ maxLen ∧ ∀ q ∈ qs, q.length = P.cellsOf e ∧ fits P n e q := by
  obtain ⟨hl, hg⟩ := mapM_get h
  rw [List.length_range] at hl
  have key : ∀ i, i < len → ∃ q : List PV, (q.length = P.cellsOf e ∧ fits P n e q) ∧ ∀ (r : Nat) p, q[r]? = some p → ∃ v, w.cell? (a.add (i * P.cellsOf e + r)) = some v ∧ v.oneCell' = true ∧ RP (Φof w) v p := by
    intro i hi
    have hx := List.getElem?_eq_getElem (show i < xs.length by omega)
    have := hg i i _ (by simp [hi]) hx
    rw [Option.bind_eq_some_iff] at this
    obtain ⟨cs, h1, h2⟩ := this
    obtain ⟨q, k1, k2⟩ := ih cs _ h2
    obtain ⟨c1, c2⟩ := cells_get h1
    refine ⟨q, ⟨by rw [← k1.1.1, c1], k2⟩, fun r p hp => ?_⟩
    have hr : r < cs.length := by rw [k1.1.1]; exact (List.getElem?_eq_some_iff.1 hp).1
    have hv := List.getElem?_eq_getElem hr
    refine ⟨_, ?_, k1.2 _ (List.getElem_mem hr), k1.1.2 r _ p hv hp⟩
    rw [← addr_add2]
    exact c2 r _ hv
  obtain ⟨qs, hq1, hq2⟩ := choose_list len key
  have hcells : ∀ q ∈ qs, (mkV P e q).cells = q := by
    intro q hq
    obtain ⟨i, hi, rfl⟩ := List.getElem_of_mem hq
    have := (hq2 i _ (List.getElem?_eq_getElem hi)).1
    exact mkV_cells hag this.1 fun ha => fits_one this.2 ha
  refine ⟨qs, ?_, by omega, fun q hq => ?_⟩
  · by_cases h0 : len = 0
    · subst h0
      have : qs = [] := List.length_eq_zero_iff.1 hq1
      subst this
      exact .sl0 _ _ _ _ fun e => by cases e
    · -- the first cell tells the block
      obtain ⟨b, off, cs, rfl, hb, -⟩ : ∃ b off cs, a = ⟨b, off, none⟩ ∧ Φof w b = some cs ∧ True := by
        have hq0 := List.getElem?_eq_getElem (show 0 < qs.length by omega)
        obtain ⟨⟨f1, f2⟩, f3⟩ := hq2 0 _ hq0
        have hp := List.getElem?_eq_getElem (show 0 < (qs[0]'(by omega)).length by omega)
        obtain ⟨v, hv, _⟩ := f3 0 _ hp
        simp [Addr.add] at hv
        obtain ⟨b, off, cs, e1, e2, _⟩ := cell_addr hv
        exact ⟨b, off, cs, e1, e2, trivial⟩
      have hs : ∀ x ∈ qs.map (mkV P e), x.cells.length = P.cellsOf e := by
        intro x hx
        obtain ⟨q, hq, rfl⟩ := List.mem_map.1 hx
        rw [hcells q hq]
        obtain ⟨i, hi, rfl⟩ := List.getElem_of_mem hq
        exact (hq2 i _ (List.getElem?_eq_getElem hi)).1.1
      have hat : ∀ (j : Nat) p, (flat (qs.map (mkV P e)))[j]? = some p → ∃ v, cs[off + j]? = some v ∧ v.oneCell' = true ∧ RP (Φof w) v p := by
        intro j p hp
        have hj : j < len * P.cellsOf e := by
          have := (List.getElem?_eq_some_iff.1 hp).1
          rw [flat_length hs] at this
          simpa [hq1] using this
        have hi : j / P.cellsOf e < qs.length := by rw [hq1]; exact (Nat.div_lt_iff_lt_mul hsz).2 hj
        have hr : j % P.cellsOf e < P.cellsOf e := Nat.mod_lt _ hsz
        have hqi := List.getElem?_eq_getElem hi
        have e0 : j = j / P.cellsOf e * P.cellsOf e + j % P.cellsOf e := by rw [Nat.mul_comm]; exact (Nat.div_add_mod _ _).symm
        have hxi : (qs.map (mkV P e))[j / P.cellsOf e]? = some (mkV P e qs[j / P.cellsOf e]) := by rw [List.getElem?_map, hqi]; rfl
        have hfg := flat_get hs hxi hr
        rw [← e0, hcells _ (List.getElem_mem hi)] at hfg
        rw [hfg] at hp
        obtain ⟨v, hv, h1, h2⟩ := (hq2 _ _ hqi).2 _ p hp
        rw [← e0, add_off] at hv
        obtain ⟨b', off', cs', e1, e2, e3⟩ := cell_addr hv
        cases e1
        rw [hb] at e2
        cases e2
        exact ⟨v, e3, h1, h2⟩
      have hlen : len = (qs.map (mkV P e)).length := by simp [hq1]
      rw [hlen]
      refine .sl b off cs cap _ false _ (fun j => (cs[off + j]?).getD default) hb (by rw [← hlen]; exact hcap) (fun e => by cases e) hs (fun j p hp => ?_) (fun j p hp => ?_)
      · obtain ⟨v, h1, h2, h3⟩ := hat j p hp
        rw [h1]
        exact ⟨rfl, h2⟩
      · obtain ⟨v, h1, h2, h3⟩ := hat j p hp
        rw [h1]
        exact h3
  · obtain ⟨i, hi, rfl⟩ := List.getElem_of_mem hq
    exact (hq2 i _ (List.getElem?_eq_getElem hi)).1
theorem trod_fits (hS : plainT P S = true) : ∀ (n : Nat) (t : TypeId) (cs : List Value) (x : DataW H × List MemPlace), t ∈ S → DataW.trod enc P w base sp held n t cs = some x → ∃ ps, Cl w cs ps ∧ fits P n t ps := by
  intro n
  induction n with
  | zero => intro t cs x _ h; simp [DataW.trod] at h
  | succ n ih =>
    intro t cs x ht h
    have hp := plain_mem hS ht
    unfold DataW.trod at h
    unfold fits
    split at h <;> (try rename_i hu) <;> (try simp only [hu] at hp ⊢) <;> try (cases hp; done)
    all_goals first
      | (exact ⟨_, Cl.one (.bool _) rfl, _, rfl⟩)
      | (split at h
         · rename_i hc
           obtain ⟨rfl, hw⟩ := hc
           exact ⟨_, Cl.one (.int _ _) rfl, _, rfl, hw⟩
         · cases h)
      | (split at h
         · rename_i hc
           exact ⟨_, Cl.one (.str _) rfl, _, rfl, by simpa using hc⟩
         · cases h)
      | (cases h; done)
      | skip
    · exact ⟨_, Cl.one (.sl0 _ _ _ false (fun e => by cases e)) rfl, [], rfl, by simp, fun q hq => by simp at hq⟩
    · rename_i e a len cap
      simp only [Bool.and_eq_true, Bool.or_eq_true, beq_iff_eq, decide_eq_true_eq] at hp
      simp only at h
      split at h
      · rename_i hc
        rw [Option.bind_eq_some_iff] at h
        obtain ⟨xs, h1, _⟩ := h
        obtain ⟨qs, k1, k2, k3⟩ := slice_fits hp.1.2 hp.2 hc.2.1 hc.2.2 (fun cs x hx => ih e cs x (by simpa using hp.1.1.2) hx) h1
        exact ⟨_, Cl.one k1 rfl, qs, rfl, k2, k3⟩
      · cases h
    · rename_i cs2 fs
      simp only [Bool.and_eq_true] at hp
      split at h
      · rename_i hc
        rw [Option.map_eq_some_iff] at h
        obtain ⟨xs, h1, _⟩ := h
        obtain ⟨ps, k1, k2⟩ := fields_fits ih fs.toList 0 (P.cellsOf t) xs hp.1 (fun f hf => by simpa using List.all_eq_true.1 hp.2 f hf) hc (Nat.zero_le _) h1
        rw [List.drop_zero] at k1
        exact ⟨ps, k1, by rw [← k1.1.1, hc], fun f hf => by simpa using k2 [] rfl f hf⟩
      · cases h
    · rename_i cs1 _ cs2 m e
      simp only [Bool.and_eq_true, beq_iff_eq] at hp
      split at h
      · rename_i hc
        rw [Option.map_eq_some_iff] at h
        obtain ⟨xs, h1, _⟩ := h
        obtain ⟨hl, hg⟩ := mapM_get h1
        rw [List.length_range] at hl
        obtain ⟨ps, k1, k2⟩ := pieces_fits (n := n) (m := m) (e := e) rfl (cs := cs1) (fun i hi => by
          have hx := List.getElem?_eq_getElem (show i < xs.length by omega)
          exact ih e _ _ (by simpa using hp.1) (hg i i _ (by simp [hi]) hx)) (by rw [hc, hp.2])
        exact ⟨ps, k1, by rw [← k1.1.1, hc], k2⟩
      · cases h
theorem arg_fits (hS : plainT P S = true) {t : TypeId} (ht : t ∈ S) {r : Reach} {b0 : Nat} {v : Value} {d : DataW H} {p : List MemPlace} (hval : Value.okWide P w r b0 t v) (h : DataW.Trod enc P w base sp held t v d p) :
    ∃ n q, RP (Φof w) v (mkV P t q) ∧ fits P n t q := by
  obtain ⟨n, h⟩ := h
  obtain ⟨q, k1, k2⟩ := trod_fits hS n t _ _ ht h
  refine ⟨n, q, ?_, k2⟩
  have hp := plain_mem hS ht
  have scal : v.cells = #[v] → aggT P t = false → RP (Φof w) v (mkV P t q) := by
    intro hc ha
    rw [hc] at k1
    have hl := k1.1.1
    match q, hl with
    | [x], _ => simp only [mkV, ha, List.headD_cons]; exact k1.1.2 0 v x rfl rfl
  have agg : ∀ cs, v = .agg cs → aggT P t = true → RP (Φof w) v (mkV P t q) := by
    rintro cs rfl ha
    simp only [mkV, ha]
    exact .agg cs q (by have := k1.1.1; simpa [Value.cells] using this) (fun x hx => k1.2 x (by simpa [Value.cells] using hx)) fun j x y hx hy => k1.1.2 j x y (by simpa [Value.cells] using hx) hy
  split at hp
  · rename_i hu
    obtain ⟨b, rfl⟩ := okWide_bool hu hval
    exact scal rfl (by simp [aggT, hu])
  · rename_i hu
    obtain ⟨b, rfl⟩ := okWide_int hu hval
    exact scal rfl (by simp [aggT, hu])
  · rename_i hu
    obtain ⟨b, rfl⟩ := okWide_string hu hval
    exact scal rfl (by simp [aggT, hu])
  · rename_i hu
    obtain ⟨a, l, c, rfl⟩ := okWide_slice hu hval
    exact scal rfl (by simp [aggT, hu])
  · rename_i hu
    simp only [Value.okWide, hu] at hval
    obtain ⟨cs, rfl, _⟩ := hval
    exact agg cs rfl (by simp [aggT, hu])
  · rename_i hu
    simp only [Value.okWide, hu] at hval
    obtain ⟨cs, rfl, _⟩ := hval
    exact agg cs rfl (by simp [aggT, hu])
  · cases hp
def shapeOf (P : Program) (t : TypeId) : Option (List (Nat × TypeId)) := match P.underlying t with
  | some (.struct fs) => some (fs.toList.map fun f => (f.offset, f.type))
  | _ => none
def fitL (P : Program) (n : Nat) (q : List PV) : List (Nat × TypeId) → Prop
  | [] => True
  | (o, t) :: r => fits P n t ((q.drop o).take (P.cellsOf t)) ∧ fitL P n q r
theorem fits_struct {n c : Nat} {t : TypeId} {q : List PV} {l : List (Nat × TypeId)} (hs : shapeOf P t = some l) (hc : P.cellsOf t = c) (h : fits P n t q) : ∃ m, n = m + 1 ∧ q.length = c ∧ fitL P m q l := by
  cases n with
  | zero => exact h.elim
  | succ m =>
    unfold shapeOf at hs
    split at hs
    · rename_i fs hu
      cases hs
      simp only [fits, hu] at h
      refine ⟨m, rfl, by rw [h.1, hc], ?_⟩
      have key : ∀ l : List Field, (∀ f ∈ l, fits P m f.type ((q.drop f.offset).take (P.cellsOf f.type))) → fitL P m q (l.map fun f => (f.offset, f.type)) := by
        intro l
        induction l with
        | nil => intro _; trivial
        | cons f l ih => intro h; exact ⟨h f List.mem_cons_self, ih fun g hg => h g (List.mem_cons_of_mem _ hg)⟩
      exact key _ h.2
    · cases hs
theorem fits_int {n : Nat} {t : TypeId} {k : IntKind} {q : List PV} (hu : P.underlying t = some (.int k)) (h : fits P n t q) : ∃ m, q = [.int k m] ∧ (Lit.int k m).wf = true := by
  cases n with
  | zero => exact h.elim
  | succ m => simpa only [fits, hu] using h
theorem fits_str {n : Nat} {t : TypeId} {q : List PV} (hu : P.underlying t = some .string) (h : fits P n t q) : ∃ s : List UInt8, q = [.str s] ∧ s.length ≤ maxLen := by
  cases n with
  | zero => exact h.elim
  | succ m => simpa only [fits, hu] using h
theorem fits_slice {n c : Nat} {t e : TypeId} {q : List PV} (hu : P.underlying t = some (.slice e)) (hc : P.cellsOf e = c) (h : fits P n t q) : ∃ m, n = m + 1 ∧ ∃ qs : List (List PV), q = [.sl c false (qs.map (mkV P e))] ∧ qs.length ≤ maxLen ∧ ∀ x ∈ qs, x.length = c ∧ fits P m e x := by
  cases n with
  | zero => exact h.elim
  | succ m =>
    subst hc
    simp only [fits, hu] at h
    exact ⟨m, rfl, h⟩
theorem fits_nums {n : Nat} {t e : TypeId} {q : List PV} (hu : P.underlying t = some (.slice e)) (he : P.underlying e = some (.int .i64)) (hc : P.cellsOf e = 1) (h : fits P n t q) :
    ∃ zs : List Int, q = [.sl 1 false (nums zs)] ∧ zs.length ≤ maxLen ∧ ∀ z ∈ zs, (Lit.int .i64 z).wf = true := by
  obtain ⟨m, _, qs, rfl, hl, hq⟩ := fits_slice hu hc h
  have ha : aggT P e = false := by simp [aggT, he]
  have : ∃ zs : List Int, qs = zs.map (fun z => [.int .i64 z]) ∧ ∀ z ∈ zs, (Lit.int .i64 z).wf = true := by
    clear hl h
    induction qs with
    | nil => exact ⟨[], rfl, fun z hz => by simp at hz⟩
    | cons x qs ih =>
      obtain ⟨zs, h1, h2⟩ := ih fun y hy => hq y (List.mem_cons_of_mem _ hy)
      obtain ⟨z, hz, hw⟩ := fits_int he (hq x List.mem_cons_self).2
      exact ⟨z :: zs, by simp [h1, hz], fun y hy => by rcases List.mem_cons.1 hy with rfl | hy; exact hw; exact h2 y hy⟩
  obtain ⟨zs, rfl, hw⟩ := this
  refine ⟨zs, ?_, by simpa using hl, hw⟩
  simp [nums, mkV, ha]
theorem RPL_nil {Φ : Phi} : RPL Φ (#[] : Array Value).toList [] := ⟨rfl, fun j v p h => by simp at h⟩
theorem RPLc {Φ : Phi} {v : Value} {vs : List Value} {p : PV} {ps : List PV} (h : RP Φ v p) (k : RPL Φ vs ps) : RPL Φ (v :: vs) (p :: ps) :=
  ⟨by simp [k.1], fun j u q hu hq => match j with
    | 0 => by cases hu; cases hq; exact h
    | j + 1 => k.2 j u q (by simpa using hu) (by simpa using hq)⟩
theorem law_calls {f : Nat} {pre : List PV → Bool} {val : List PV → PV} (h : PureOK P f pre val) {ps : List PV} (hp : pre ps = true) (hv : val ps = .bool true) {vs : Array Value} (hr : RPL (Φof w) vs.toList ps) :
    Calls P f vs w fun e w' => e = .returned (.bool true) ∧ Below w.heap.size w w' := by
  refine (h ps hp (Φof w) w vs (Φof_ok w) hr).mono ?_
  rintro e w' ⟨v, Φ', rfl, _, _, h1, h2, _⟩
  rw [hv] at h1
  cases h1
  exact ⟨rfl, h2⟩
end
end Go.Pl

namespace Go.Proofs.Ytpdpkmihgelmoaa
open Go.Pl
open Enc (enc dec is)
open EncL (encL decL isL)
set_option maxRecDepth 100000
theorem ok_Tclone : Does Try.prog 74 (fun x : List Int × Unit => decide (x.1.length ≤ 1000000)) (fun x : List Int × Unit => x.1) := Does.ofPure clone_pure fun ⟨l, _⟩ h => ⟨by show ((nums l).all PV.isNum && decide ((nums l).length ≤ 1000000)) = true; simp at h; simp [h], by show Fits _ (.sl 1 false (nums l)); exact fits_enc l⟩
theorem ok_Trcopy : Does Try.prog 75 (fun x : List Int × Unit => decide (x.1.length ≤ 1000000)) (fun x : List Int × Unit => x.1) := Does.ofPure ok_copy fun ⟨l, _⟩ h => ⟨by show ((nums l).all PV.isNum && decide ((nums l).length ≤ 1000000)) = true; simp at h; simp [h], by show Fits _ (.sl 1 false (nums l)); exact fits_enc l⟩
theorem ok_Tsize : Does Try.prog 73 (fun x : List Int × Unit => true) (fun x : List Int × Unit => sizeB x.1) := Does.ofPure ok_size fun ⟨l, _⟩ h => ⟨by show (nums l).all PV.isNum = true; simp, by show Fits _ (.tup [.int .i64 (sizeB ((nums l).map PV.asInt)).1, .int .i64 (sizeB ((nums l).map PV.asInt)).2]); rw [asInt_nums]; exact fits_enc (sizeB l)⟩
theorem ok_Trsize : Does Try.prog 35 (fun x : List Int × Unit => true) (fun x : List Int × Unit => sizeB x.1) := Does.ofPure ok_rsize fun ⟨l, _⟩ h => ⟨by show (nums l).all PV.isNum = true; simp, by show Fits _ (.tup [.int .i64 (sizeB ((nums l).map PV.asInt)).1, .int .i64 (sizeB ((nums l).map PV.asInt)).2]); rw [asInt_nums]; exact fits_enc (sizeB l)⟩
theorem ok_TOf : Does Try.prog 22 (fun _ : List Int × Unit => true) (fun x : List Int × Unit => ofT x.1) := Does.ofPure ok_of2 fun ⟨l, _⟩ h => ⟨by show (nums l).all PV.isNum = true; simp, by show Fits _ (vrP (ofB (PV.ns (.sl 1 false (nums l))))); rw [show PV.ns (.sl 1 false (nums l)) = l by simp [PV.ns, PV.asXs], vrP_enc]; exact fits_enc _⟩
theorem ok_TROffsets : Does Try.prog 31 (fun x : View × Unit => vOk x.1) (fun x : View × Unit => offsT x.1) := Does.ofPure ok_roffs fun ⟨v, _⟩ h => ⟨vOk_pre h, by show Fits _ (.sl 1 false (nums (offsB (enc v : PV).vO (enc v : PV).vD (enc v : PV).vS))); rw [vO_enc, vD_enc, vS_enc]; exact fits_enc (offsT v)⟩
theorem ok_Tvvalid : Does Try.prog 27 (fun x : Int × View × Unit => decide (x.1 ≤ 9223372036854775807) && vOk x.2.1) (fun x : Int × View × Unit => validT x.1 x.2.1) := Does.ofPure ok_valid fun ⟨m, v, _⟩ h => by
  simp only [Bool.and_eq_true, decide_eq_true_eq] at h
  refine ⟨?_, ?_⟩
  · show (decide (m ≤ 9223372036854775807) && pre_view (enc v)) = true
    simp [vOk_pre h.2, h.1]
  · show Fits _ (.bool (validB m (enc v : PV).vO (enc v : PV).vD (enc v : PV).vS))
    rw [vO_enc, vD_enc, vS_enc]
    exact fits_enc (validT m v)
theorem ok_Trvalid : Does Try.prog 28 (fun x : Int × View × Unit => decide (x.1 ≤ 9223372036854775807) && vOk x.2.1) (fun x : Int × View × Unit => validT x.1 x.2.1) := Does.ofPure ok_rvalid fun ⟨m, v, _⟩ h => by
  simp only [Bool.and_eq_true, decide_eq_true_eq] at h
  refine ⟨?_, ?_⟩
  · show (decide (m ≤ 9223372036854775807) && pre_view (enc v)) = true
    simp [vOk_pre h.2, h.1]
  · show Fits _ (.bool (validB m (enc v : PV).vO (enc v : PV).vD (enc v : PV).vS))
    rw [vO_enc, vD_enc, vS_enc]
    exact fits_enc (validT m v)
theorem ok_TFew19 : Does Try.prog 21 (fun x : View × Unit => vIn x.1) (fun x : View × Unit => fewB x.1.o x.1.d x.1.s) := Does.ofPure ok_few fun ⟨v, _⟩ h => ⟨vIn_pre h, by show Fits _ (.bool (fewB (enc v : PV).vO (enc v : PV).vD (enc v : PV).vS)); rw [vO_enc, vD_enc, vS_enc]; exact fits_enc (fewB v.o v.d v.s)⟩
theorem ok_Tawake19 : Does Try.prog 20 (fun _ : Unit => true) (fun _ : Unit => true) := Does.ofPure ok_awake fun _ _ => ⟨rfl, fits_enc true⟩
theorem ok_Tel_Valid : Does Try.prog 120 (fun _ : Str × Int × Unit => true) (fun x : Str × Int × Unit => elemB x.1 x.2.1) := Does.of (T := T_elv) (ic := ic_elv) (rs := rs_elv) tab_nil mixo Try.func120 (by kernel_rfl) (by kernel_rfl) (by kernel_rfl) elv_run
theorem ok_Tr17_Valid : Does Try.prog 116 (fun _ : Str × Int × Unit => true) (fun x : Str × Int × Unit => elemB x.1 x.2.1) := Does.of (T := T_r17v) (ic := ic_r17v) (rs := rs_r17v) tab_nil mixo Try.func116 (by kernel_rfl) (by kernel_rfl) (by kernel_rfl) r17v_run
theorem ok_el1 : OwnOK Try.prog 119 pre_el1 val_el1 := own_T (T := T_el1) (ic := ic_el1) (rs := rs_el1) (tab_cons (ent Try.func120 (by kernel_rfl) ok_Tel_Valid) tab_nil) mixo Try.func119 (by kernel_rfl) (by kernel_rfl) (by kernel_rfl) el1_run
theorem ok_elx : OwnOK Try.prog 121 pre_elx val_elx := own_T (T := T_elx) (ic := ic_elx) (rs := rs_elx) (tab_cons (ent Try.func119 (by kernel_rfl) ok_el1) tab_nil) mixo Try.func121 (by kernel_rfl) (by kernel_rfl) (by kernel_rfl) elx_run
theorem ok_elc : OwnOK Try.prog 118 pre_elx val_elc := own_T (T := T_elc) (ic := ic_elc) (rs := rs_elc) (tab_cons (ent Try.func121 (by kernel_rfl) ok_elx) tab_nil) mixo Try.func118 (by kernel_rfl) (by kernel_rfl) (by kernel_rfl) elc_run
theorem ok_elements : Does Try.prog 117 (fun x : Str × List Int × Unit => decide (x.2.1.length ≤ 1000000)) (fun x : Str × List Int × Unit => x.2.1.all (elemB x.1)) := Does.of (T := T_elements) (ic := ic_elements) (rs := rs_elements) (tab_cons (ent Try.func118 (by kernel_rfl) ok_elc) tab_nil) mixo Try.func117 (by kernel_rfl) (by kernel_rfl) (by kernel_rfl) elements_run
theorem ok_Tar_Of : Does Try.prog 115 (fun x : Str × List Int × List Int × Unit => decide (x.2.1.length ≤ 1000000) && decide (x.2.2.1.length ≤ 1000000)) (fun x : Str × List Int × List Int × Unit => arOf x.1 x.2.1 x.2.2.1) := Does.of (T := T_arof) (ic := ic_arof) (rs := rs_arof) (tab_cons (ent Try.func73 (by kernel_rfl) ok_Tsize) (tab_cons (ent Try.func117 (by kernel_rfl) ok_elements) (tab_cons (ent Try.func74 (by kernel_rfl) ok_Tclone) tab_nil))) mixo Try.func115 (by kernel_rfl) (by kernel_rfl) (by kernel_rfl) arof_run
theorem ok_Tr18_Of : Does Try.prog 106 (fun x : Str × List Int × List Int × Unit => decide (x.2.1.length ≤ 1000000) && decide (x.2.2.1.length ≤ 1000000)) (fun x : Str × List Int × List Int × Unit => arOf x.1 x.2.1 x.2.2.1) := Does.of (T := T_rof18) (ic := ic_rof18) (rs := rs_rof18) (tab_cons (ent Try.func35 (by kernel_rfl) ok_Trsize) (tab_cons (ent Try.func116 (by kernel_rfl) ok_Tr17_Valid) (tab_cons (ent Try.func75 (by kernel_rfl) ok_Trcopy) tab_nil))) mixo Try.func106 (by kernel_rfl) (by kernel_rfl) (by kernel_rfl) rof18_run
theorem ok_Tar_Valid : Does Try.prog 105 (fun x : Arr × Unit => arSm x.1) (fun x : Arr × Unit => arVl x.1) := Does.of (T := T_arv) (ic := ic_arv) (rs := rs_arv) (tab_cons (ent Try.func115 (by kernel_rfl) ok_Tar_Of) tab_nil) mixo Try.func105 (by kernel_rfl) (by kernel_rfl) (by kernel_rfl) arv_run
theorem ok_Tr18_Valid : Does Try.prog 70 (fun x : Arr × Unit => arSm x.1) (fun x : Arr × Unit => arVl x.1) := Does.of (T := T_rarv) (ic := ic_rarv) (rs := rs_rarv) (tab_cons (ent Try.func106 (by kernel_rfl) ok_Tr18_Of) tab_nil) mixo Try.func70 (by kernel_rfl) (by kernel_rfl) (by kernel_rfl) rarv_run
theorem ok_Tsame17 : Does Try.prog 107 (fun x : List Int × List Int × Unit => decide (x.1.length ≤ 1000000)) (fun x : List Int × List Int × Unit => decide (x.1 = x.2.1)) := Does.of (T := T_same17) (ic := ic_same17) (rs := rs_same17) tab_nil mixo Try.func107 (by kernel_rfl) (by kernel_rfl) (by kernel_rfl) same17_run
theorem ok_Taeq : Does Try.prog 69 (fun x : Arr × Arr × Unit => arSm x.1) (fun x : Arr × Arr × Unit => decide (x.1 = x.2.1)) := Does.of (T := T_areq) (ic := ic_areq) (rs := rs_areq) (tab_cons (ent Try.func107 (by kernel_rfl) ok_Tsame17) tab_nil) mixo Try.func69 (by kernel_rfl) (by kernel_rfl) (by kernel_rfl) areq_run
theorem ok_Tafew : Does Try.prog 66 (fun _ : Arr × Int × Unit => true) (fun x : Arr × Int × Unit => arFew x.1 x.2.1) := Does.of (T := T_arfew) (ic := ic_arfew) (rs := rs_arfew) tab_nil mixo Try.func66 (by kernel_rfl) (by kernel_rfl) (by kernel_rfl) arfew_run
theorem ok_Tvcopy19 : Does Try.prog 68 (fun x : Arr × View × Unit => arSm x.1 && vOk x.2.1) (fun x : Arr × View × Unit => copyT x.1 x.2.1) := Does.of (T := T_vcopy19) (ic := ic_vcopy19) (rs := rs_vcopy19) (tab_cons (ent Try.func70 (by kernel_rfl) ok_Tr18_Valid) (tab_cons (ent Try.func28 (by kernel_rfl) ok_Trvalid) (tab_cons (ent Try.func31 (by kernel_rfl) ok_TROffsets) (tab_cons (ent Try.func106 (by kernel_rfl) ok_Tr18_Of) tab_nil)))) mixo Try.func68 (by kernel_rfl) (by kernel_rfl) (by kernel_rfl) vcopy19_run
theorem ok_voff : OwnOK Try.prog 81 pre_voff val_voff := own_T (T := T_voff) (ic := ic_voff) (rs := rs_voff) tab_nil mixo Try.func81 (by kernel_rfl) (by kernel_rfl) (by kernel_rfl) voff_run
theorem vc_parts {cd : Code} (h : extCd Try.prog selR Try.f67 0 = some cd) : rfParts Try.prog cd = some (.t 27, [28], [(7, 28)], ic_vcra) := by
  have : (extCd Try.prog selR Try.f67 0).bind (rfParts Try.prog) = some (.t 27, [28], [(7, 28)], ic_vcra) := by kernel_rfl
  rw [h] at this
  exact this
theorem vc_ext (hT : TabOK Try.prog T_vcx) : ∀ (B : Nat) (c : Ctx), c.w0.heap.size = B → (∀ i m, 0 ≤ i → c.μ0 i m = none) → XOKc (markLg B 4 hT mixo) (fun n cd => extCd Try.prog selR Try.f67 n = some cd) vcE c := by
  rintro B c hB hk n cd hcd st a w q hr ⟨rfl, hE⟩
  exact rangeE_ok hT mixo offs_IterOK (fun μ Φ x => ⟨rfl, fun j v y hv hy => match j with
    | 0 => by cases hv; cases hy; exact .pv _ _ (.int _ _)
    | j + 1 => by simp at hv⟩) (fun x => rfl) (vc_parts hcd) hB hk hr hE
theorem tab_vcx : TabOK Try.prog T_vcx := (tab_cons (ent Try.func105 (by kernel_rfl) ok_Tar_Valid) (tab_cons (ent Try.func27 (by kernel_rfl) ok_Tvvalid) (tab_cons (ent Try.func74 (by kernel_rfl) ok_Tclone) (tab_cons (ent Try.func81 (by kernel_rfl) ok_voff) tab_nil))))
theorem ok_Tvcopy : Does Try.prog 67 (fun x : Arr × View × Unit => arSm x.1 && vOk x.2.1) (fun x : Arr × View × Unit => copyT x.1 x.2.1) := Does.ofM (T := T_vcx) (ic := ic_vcx) (rs := rs_vcx) (E := vcE) (sel := selR) tab_vcx mixo Try.func67 (by kernel_rfl) (by kernel_rfl) (by kernel_rfl) (vc_ext tab_vcx) vcx_run
theorem ok_lcopy : Does Try.prog 13 (fun x : Arr × View × Unit => vIn x.2.1) (fun _ : Arr × View × Unit => true) := Does.of (T := T_lcopy) (ic := ic_lcopy) (rs := rs_lcopy) (tab_cons (ent Try.func20 (by kernel_rfl) ok_Tawake19) (tab_cons (ent Try.func66 (by kernel_rfl) ok_Tafew) (tab_cons (ent Try.func21 (by kernel_rfl) ok_TFew19) (tab_cons (ent Try.func67 (by kernel_rfl) ok_Tvcopy) (tab_cons (ent Try.func68 (by kernel_rfl) ok_Tvcopy19) (tab_cons (ent Try.func69 (by kernel_rfl) ok_Taeq) (tab_cons (ent Try.func22 (by kernel_rfl) ok_TOf) (tab_cons (ent Try.func70 (by kernel_rfl) ok_Tr18_Valid) tab_nil)))))))) mixo Try.func13 (by kernel_rfl) (by kernel_rfl) (by kernel_rfl) lcopy_run
theorem under_i : Try.prog.underlying 3 = some (.int .i64) := by kernel_rfl
theorem under_s : Try.prog.underlying 9 = some .string := by kernel_rfl
theorem cells_i : Try.prog.cellsOf 3 = 1 := by kernel_rfl
theorem cells_s : Try.prog.cellsOf 9 = 1 := by kernel_rfl
theorem cells_is : Try.prog.cellsOf 28 = 1 := by kernel_rfl
theorem under_is' : Try.prog.underlying 28 = some (.slice 3) := by kernel_rfl
theorem shape_view : shapeOf Try.prog 30 = some [(0, 3), (1, 28), (2, 28)] := by kernel_rfl
theorem cells_view : Try.prog.cellsOf 30 = 3 := by kernel_rfl
theorem agg_view : aggT Try.prog 30 = true := by kernel_rfl
theorem shape_arr : shapeOf Try.prog 62 = some [(0, 9), (1, 28), (2, 28)] := by kernel_rfl
theorem cells_arr : Try.prog.cellsOf 62 = 3 := by kernel_rfl
theorem agg_arr : aggT Try.prog 62 = true := by kernel_rfl
theorem open_vw {n : Nat} {q : List PV} (h : fits Try.prog n 30 q) : ∃ v : View, mkV Try.prog 30 q = enc v ∧ vIn v = true := by
  obtain ⟨m, _, hl, h0, h1, h2, _⟩ := fits_struct shape_view cells_view h
  match q, hl with
  | [a, b, c], _ =>
    rw [cells_i] at h0
    rw [cells_is] at h1 h2
    obtain ⟨o, e0, w0⟩ := fits_int under_i h0
    obtain ⟨d, e1, l1, _⟩ := fits_nums under_is' under_i cells_i h1
    obtain ⟨s, e2, l2, _⟩ := fits_nums under_is' under_i cells_i h2
    simp at e0 e1 e2
    subst e0 e1 e2
    exact ⟨⟨o, d, s⟩, by rw [mkV, agg_view]; rfl, by have l1' : d.length ≤ 9223372036854775807 := l1; have l2' : s.length ≤ 9223372036854775807 := l2; simp [vIn]; omega⟩
theorem open_arr {n : Nat} {q : List PV} (h : fits Try.prog n 62 q) : ∃ a : Arr, mkV Try.prog 62 q = enc a := by
  obtain ⟨m, _, hl, h0, h1, h2, _⟩ := fits_struct shape_arr cells_arr h
  match q, hl with
  | [a, b, c], _ =>
    rw [cells_s] at h0
    rw [cells_is] at h1 h2
    obtain ⟨o, e0, w0⟩ := fits_str under_s h0
    obtain ⟨d, e1, l1, _⟩ := fits_nums under_is' under_i cells_i h1
    obtain ⟨s, e2, l2, _⟩ := fits_nums under_is' under_i cells_i h2
    simp at e0 e1 e2
    subst e0 e1 e2
    exact ⟨⟨⟨o⟩, d, s⟩, by rw [mkV, agg_arr]; rfl⟩
theorem open_lcopy {n0 n1 : Nat} {q0 q1 : List PV} (h0 : fits Try.prog n0 62 q0) (h1 : fits Try.prog n1 30 q1) :
    preT (fun x : Arr × View × Unit => vIn x.2.1) [mkV Try.prog 62 q0, mkV Try.prog 30 q1] = true := by
  obtain ⟨a, e0⟩ := open_arr h0
  obtain ⟨v, e1, l1⟩ := open_vw h1
  rw [e0, e1]
  exact pre_enc (a, v, ()) rfl l1
end Go.Proofs.Ytpdpkmihgelmoaa

