-- Written by a program of this session over the kit's print of the translation. Lean checks it.
import Derived.Test.YtlboachgeepadaaProg
import Derived.Below
import Derived.Deep.Draws
import Derived.Deep.AppendLies
import Derived.Maps.AppendAt
import Derived.OwnWalk
import Derived.Laws.BytesArg
import Derived.Laws.MakeOwn
import Derived.Laws.OwnMore
import Derived.Deep.OwnRows
import Derived.Tactics
import Derived.Lib.ConvBytes
import Derived.Laws.Slices
import Derived.WalkKit
import Derived.KernelRfl
import Derived.RowKit3
import Derived.Deep.LoopGhost
import Derived.Deep.QuietTactic
import Derived.BigQuiet
import Derived.WideLaws
import Derived.Deep.DeepCutAuto
import Derived.Deep.CutBlock
import Derived.Deep.RegionHeld3
import Derived.Laws.Rows
import Derived.Lib.AppendStr
import Derived.ArgAppend
import Derived.Laws.IdiomCopy
import Derived.OrdersHeld
import Derived.Laws.BitsLemmas
import Derived.RowKit
import Derived.Test.YtlboachgeepadaaWWords
import Derived.Test.YtlboachgeepadaaWLast
import Derived.Test.YtlboachgeepadaaWTab
import Derived.Test.YtlboachgeepadaaWFour
import Derived.Test.YtlboachgeepadaaWQPut
import Derived.Test.YtlboachgeepadaaWApart
import Derived.Test.YtlboachgeepadaaWArr
import Derived.Test.YtlboachgeepadaaWZeros
import Derived.Test.YtlboachgeepadaaWFoot
import Derived.Test.YtlboachgeepadaaWKept
import Derived.Test.YtlboachgeepadaaWShare
import Derived.Test.YtlboachgeepadaaWN
import Derived.Test.YtlboachgeepadaaWFootNe
import Derived.Test.YtlboachgeepadaaWAt
import Derived.Test.YtlboachgeepadaaWEqStruct
import Derived.Test.YtlboachgeepadaaWRepsOne
import Derived.Test.YtlboachgeepadaaWInv
import Derived.Test.YtlboachgeepadaaWInvWords
import Derived.Test.YtlboachgeepadaaWGuard
import Derived.Test.YtlboachgeepadaaWNEv
import Derived.Test.YtlboachgeepadaaWMore
namespace Go.Proofs.Ytlboachgeepadaa.P
open Go.RowKit Go.Proofs.YtlboachgeepadaaW.PrintWords Go.Proofs.YtlboachgeepadaaW.PrintLast Go.Proofs.YtlboachgeepadaaW.PrintMore
attribute [local go_sem] max2_int min2_int max_two min_two max_three min_three max_four min_four   -- for this text's walks alone
set_option linter.unusedVariables false
set_option linter.unusedSimpArgs false



def errW : Option Int → Value
  | none => .nilIface
  | some c => .iface 0 (.int .i64 c)
theorem errW_none : errW none = .nilIface := rfl
theorem errW_some (c : Int) : errW (some c) = .iface 0 (.int .i64 c) := rfl

theorem info27 : (Try.prog.info? 27).map (fun i => (i.zero, i.size, i.bytes)) = some (some (.int .u32 0), 1, 4) := by kernel_rfl
theorem info40 : (Try.prog.info? 40).map (fun i => (i.zero, i.size, i.bytes)) = some (some (.agg #[(.int .i64 0), (.int .i64 0), (.int .i64 0), (.int .i64 0), (.slice none 0 0), (.int .u32 0)]), 6, 64) := by kernel_rfl
theorem info61 : (Try.prog.info? 61).map (fun i => (i.zero, i.size, i.bytes)) = some (some (.agg #[(.int .i64 0), (.slice none 0 0)]), 2, 32) := by kernel_rfl
theorem info63 : (Try.prog.info? 63).map (fun i => (i.zero, i.size, i.bytes)) = some (some (.agg #[(.int .u32 0), (.slice none 0 0)]), 2, 32) := by kernel_rfl
theorem info72 : (Try.prog.info? 72).map (fun i => (i.zero, i.size, i.bytes)) = some (some (.agg #[(.int .i64 0), (.int .i64 0), (.int .i64 0), (.int .i64 0), (.bool false), (.int .i64 0), (.int .u32 0)]), 7, 56) := by kernel_rfl
-- the values' own types
def rd_L1 (xs : List (List Int)) (i : Int) : (List Int) := xs.getD i.toNat ([] : List Int)
theorem at_L1 {w : World} {A : Option Addr} {n : Nat} {xs : List (List Int)} (h : Kd.C (Kd.slice 27 (Kd.int .u32)) w A n xs) (i : Int) (h0 : 0 ≤ i) (h1 : i < n) : ∃ ad A0 c0, A = some ad ∧ w.cell? (ad.add i.toNat) = some (.slice A0 (rd_L1 xs i).length c0) ∧ (rd_L1 xs i).length ≤ c0 ∧ (Kd.int .u32).C w A0 (rd_L1 xs i).length (rd_L1 xs i) := by
  obtain ⟨ad, c, e, _, hK, hc0⟩ := Kd.C_get h ([] : List Int) i h0 h1
  have hc : ∀ j u, c[j]? = some u → w.cell? (ad.add (i.toNat * 1 + j)) = some u := hc0
  obtain ⟨A0, c0, rfl, l0, g0⟩ := hK
  exact ⟨ad, A0, c0, e, by have hq := hc 0 _ rfl; rwa [Nat.mul_one, Nat.add_zero] at hq, l0, g0⟩

/-! #### struct type 72 -/
structure S72 where
  f0 : Int
  f1 : Int
  f2 : Int
  f3 : Int
  f4 : Bool
  f5 : Int
  f6 : Int
def z72 : S72 := ⟨(0 : Int), (0 : Int), (0 : Int), (0 : Int), false, (0 : Int), (0 : Int)⟩
def k72 : Kd S72 := Kd.iso (Kd.pair (Kd.int .i64) (Kd.pair (Kd.int .i64) (Kd.pair (Kd.int .i64) (Kd.pair (Kd.int .i64) (Kd.pair Kd.bool (Kd.pair (Kd.int .i64) (Kd.int .u32))))))) (fun x : S72 => (x.f0, x.f1, x.f2, x.f3, x.f4, x.f5, x.f6))
theorem k72_open {w : World} {x : S72} {cs : List Value} (h : k72.K w x cs) : cs = [.int .i64 x.f0, .int .i64 x.f1, .int .i64 x.f2, .int .i64 x.f3, .bool x.f4, .int .i64 x.f5, .int .u32 x.f6] := by
  obtain ⟨_, _, rfl, rfl, ⟨_, _, rfl, rfl, ⟨_, _, rfl, rfl, ⟨_, _, rfl, rfl, ⟨_, _, rfl, rfl, ⟨_, _, rfl, rfl, rfl⟩⟩⟩⟩⟩⟩ := h
  exact rfl
theorem k72_openM {w : World} {base : Nat} {ok : Nat → Prop} {x : S72} {cs : List Value} (h : k72.M w base ok x cs) : cs = [.int .i64 x.f0, .int .i64 x.f1, .int .i64 x.f2, .int .i64 x.f3, .bool x.f4, .int .i64 x.f5, .int .u32 x.f6] := by
  obtain ⟨_, _, rfl, rfl, ⟨_, _, rfl, rfl, ⟨_, _, rfl, rfl, ⟨_, _, rfl, rfl, ⟨_, _, rfl, rfl, ⟨_, _, rfl, rfl, rfl⟩⟩⟩⟩⟩⟩ := h
  exact rfl
theorem k72_mk (w : World) (x : S72)  : k72.K w x [.int .i64 x.f0, .int .i64 x.f1, .int .i64 x.f2, .int .i64 x.f3, .bool x.f4, .int .i64 x.f5, .int .u32 x.f6] := ⟨[.int .i64 x.f0], [.int .i64 x.f1, .int .i64 x.f2, .int .i64 x.f3, .bool x.f4, .int .i64 x.f5, .int .u32 x.f6], rfl, rfl, ⟨[.int .i64 x.f1], [.int .i64 x.f2, .int .i64 x.f3, .bool x.f4, .int .i64 x.f5, .int .u32 x.f6], rfl, rfl, ⟨[.int .i64 x.f2], [.int .i64 x.f3, .bool x.f4, .int .i64 x.f5, .int .u32 x.f6], rfl, rfl, ⟨[.int .i64 x.f3], [.bool x.f4, .int .i64 x.f5, .int .u32 x.f6], rfl, rfl, ⟨[.bool x.f4], [.int .i64 x.f5, .int .u32 x.f6], rfl, rfl, ⟨[.int .i64 x.f5], [.int .u32 x.f6], rfl, rfl, rfl⟩⟩⟩⟩⟩⟩
theorem k72_mkM (w : World) (base : Nat) (ok : Nat → Prop) (x : S72)  : k72.M w base ok x [.int .i64 x.f0, .int .i64 x.f1, .int .i64 x.f2, .int .i64 x.f3, .bool x.f4, .int .i64 x.f5, .int .u32 x.f6] := ⟨[.int .i64 x.f0], [.int .i64 x.f1, .int .i64 x.f2, .int .i64 x.f3, .bool x.f4, .int .i64 x.f5, .int .u32 x.f6], rfl, rfl, ⟨[.int .i64 x.f1], [.int .i64 x.f2, .int .i64 x.f3, .bool x.f4, .int .i64 x.f5, .int .u32 x.f6], rfl, rfl, ⟨[.int .i64 x.f2], [.int .i64 x.f3, .bool x.f4, .int .i64 x.f5, .int .u32 x.f6], rfl, rfl, ⟨[.int .i64 x.f3], [.bool x.f4, .int .i64 x.f5, .int .u32 x.f6], rfl, rfl, ⟨[.bool x.f4], [.int .i64 x.f5, .int .u32 x.f6], rfl, rfl, ⟨[.int .i64 x.f5], [.int .u32 x.f6], rfl, rfl, rfl⟩⟩⟩⟩⟩⟩
theorem k72_mkF (W : World) (ok : Nat → Prop) (x : S72) : Kd.FK k72 W ok x [.int .i64 x.f0, .int .i64 x.f1, .int .i64 x.f2, .int .i64 x.f3, .bool x.f4, .int .i64 x.f5, .int .u32 x.f6] := fun W2 _ => k72_mk W2 x
def rd_T72 (xs : List S72) (i : Int) : S72 := xs.getD i.toNat z72
theorem at_T72 {w : World} {A : Option Addr} {n : Nat} {xs : List S72} (h : Kd.C k72 w A n xs) (i : Int) (h0 : 0 ≤ i) (h1 : i < n) : ∃ ad , A = some ad ∧ w.cell? (ad.add (i.toNat * 7)) = some (.int .i64 (rd_T72 xs i).f0) ∧ w.cell? ⟨(ad.add (i.toNat * 7)).block, (ad.add (i.toNat * 7)).off + 1, none⟩ = some (.int .i64 (rd_T72 xs i).f1) ∧ w.cell? ⟨(ad.add (i.toNat * 7)).block, (ad.add (i.toNat * 7)).off + 2, none⟩ = some (.int .i64 (rd_T72 xs i).f2) ∧ w.cell? ⟨(ad.add (i.toNat * 7)).block, (ad.add (i.toNat * 7)).off + 3, none⟩ = some (.int .i64 (rd_T72 xs i).f3) ∧ w.cell? ⟨(ad.add (i.toNat * 7)).block, (ad.add (i.toNat * 7)).off + 4, none⟩ = some (.bool (rd_T72 xs i).f4) ∧ w.cell? ⟨(ad.add (i.toNat * 7)).block, (ad.add (i.toNat * 7)).off + 5, none⟩ = some (.int .i64 (rd_T72 xs i).f5) ∧ w.cell? ⟨(ad.add (i.toNat * 7)).block, (ad.add (i.toNat * 7)).off + 6, none⟩ = some (.int .u32 (rd_T72 xs i).f6) := by
  obtain ⟨ad, c, e, _, hK, hc0⟩ := Kd.C_get h z72 i h0 h1
  have hc : ∀ j u, c[j]? = some u → w.cell? (ad.add (i.toNat * 7 + j)) = some u := hc0
  obtain rfl := k72_open hK
  exact ⟨ad, e, hc 0 _ rfl, by rw [← add_field _ _ 1 (by omega)]; exact hc 1 _ rfl, by rw [← add_field _ _ 2 (by omega)]; exact hc 2 _ rfl, by rw [← add_field _ _ 3 (by omega)]; exact hc 3 _ rfl, by rw [← add_field _ _ 4 (by omega)]; exact hc 4 _ rfl, by rw [← add_field _ _ 5 (by omega)]; exact hc 5 _ rfl, by rw [← add_field _ _ 6 (by omega)]; exact hc 6 _ rfl⟩

def rd_L5 (xs : List (List S72)) (i : Int) : (List S72) := xs.getD i.toNat ([] : List S72)
theorem at_L5 {w : World} {A : Option Addr} {n : Nat} {xs : List (List S72)} (h : Kd.C (Kd.slice 72 k72) w A n xs) (i : Int) (h0 : 0 ≤ i) (h1 : i < n) : ∃ ad A0 c0, A = some ad ∧ w.cell? (ad.add i.toNat) = some (.slice A0 (rd_L5 xs i).length c0) ∧ (rd_L5 xs i).length ≤ c0 ∧ k72.C w A0 (rd_L5 xs i).length (rd_L5 xs i) := by
  obtain ⟨ad, c, e, _, hK, hc0⟩ := Kd.C_get h ([] : List S72) i h0 h1
  have hc : ∀ j u, c[j]? = some u → w.cell? (ad.add (i.toNat * 1 + j)) = some u := hc0
  obtain ⟨A0, c0, rfl, l0, g0⟩ := hK
  exact ⟨ad, A0, c0, e, by have hq := hc 0 _ rfl; rwa [Nat.mul_one, Nat.add_zero] at hq, l0, g0⟩

/-! #### struct type 61 -/
structure S61 where
  f0 : Int
  f1 : (List S72)
def z61 : S61 := ⟨(0 : Int), ([] : List S72)⟩
def k61 : Kd S61 := Kd.iso (Kd.pair (Kd.int .i64) (Kd.slice 72 k72)) (fun x : S61 => (x.f0, x.f1))
theorem k61_open {w : World} {x : S61} {cs : List Value} (h : k61.K w x cs) : ∃ A1 c1, cs = [.int .i64 x.f0, .slice A1 x.f1.length c1] ∧ x.f1.length ≤ c1 ∧ k72.C w A1 x.f1.length x.f1 := by
  obtain ⟨_, _, rfl, rfl, ⟨A1, c1, rfl, l1, g1⟩⟩ := h
  exact ⟨A1, c1, rfl, l1, g1⟩
theorem k61_openM {w : World} {base : Nat} {ok : Nat → Prop} {x : S61} {cs : List Value} (h : k61.M w base ok x cs) : ∃ v1, cs = [.int .i64 x.f0, v1] ∧ k72.R 72 w base ok v1 x.f1 := by
  obtain ⟨_, _, rfl, rfl, ⟨v1, rfl, g1⟩⟩ := h
  exact ⟨v1, rfl, g1⟩
theorem k61_mk (w : World) (x : S61) {A1 : Option Addr} {c1 : Nat} (l1 : x.f1.length ≤ c1) (g1 : k72.C w A1 x.f1.length x.f1) : k61.K w x [.int .i64 x.f0, .slice A1 x.f1.length c1] := ⟨[.int .i64 x.f0], [.slice A1 x.f1.length c1], rfl, rfl, ⟨A1, c1, rfl, l1, g1⟩⟩
theorem k61_mkM (w : World) (base : Nat) (ok : Nat → Prop) (x : S61) {v1 : Value} (g1 : k72.R 72 w base ok v1 x.f1) : k61.M w base ok x [.int .i64 x.f0, v1] := ⟨[.int .i64 x.f0], [v1], rfl, rfl, ⟨v1, rfl, g1⟩⟩
theorem k61_openF {W : World} {ok : Nat → Prop} {x : S61} {cs : List Value} (h : Kd.FK k61 W ok x cs) : ∃ A1 c1, cs = [.int .i64 x.f0, .slice A1 x.f1.length c1] ∧ x.f1.length ≤ c1 ∧ Kd.F k72 W ok A1 x.f1.length x.f1 := by
  obtain ⟨A1, c1, rfl, l1, _⟩ := k61_open (Kd.FK_now h)
  exact ⟨A1, c1, rfl, l1, (fun W' hW => by obtain ⟨A1_, c1_, he, l1_, g1_⟩ := k61_open (h W' hW); injection (Option.some.inj (show some (Value.slice A1 x.f1.length c1) = some (Value.slice A1_ x.f1.length c1_) from congrArg (fun l => l[1]?) he)) with ha_ _ _; rw [ha_]; exact g1_)⟩
theorem k61_mkF (W : World) (ok : Nat → Prop) (x : S61) {A1 : Option Addr} {c1 : Nat} (l1 : x.f1.length ≤ c1) (g1 : Kd.F k72 W ok A1 x.f1.length x.f1) : Kd.FK k61 W ok x [.int .i64 x.f0, .slice A1 x.f1.length c1] := fun W2 hW => k61_mk W2 x l1 (g1 W2 hW)
def rd_T61 (xs : List S61) (i : Int) : S61 := xs.getD i.toNat z61
theorem at_T61 {w : World} {A : Option Addr} {n : Nat} {xs : List S61} (h : Kd.C k61 w A n xs) (i : Int) (h0 : 0 ≤ i) (h1 : i < n) : ∃ ad A1 c1, A = some ad ∧ w.cell? (ad.add (i.toNat * 2)) = some (.int .i64 (rd_T61 xs i).f0) ∧ w.cell? ⟨(ad.add (i.toNat * 2)).block, (ad.add (i.toNat * 2)).off + 1, none⟩ = some (.slice A1 (rd_T61 xs i).f1.length c1) ∧ (rd_T61 xs i).f1.length ≤ c1 ∧ k72.C w A1 (rd_T61 xs i).f1.length (rd_T61 xs i).f1 := by
  obtain ⟨ad, c, e, _, hK, hc0⟩ := Kd.C_get h z61 i h0 h1
  have hc : ∀ j u, c[j]? = some u → w.cell? (ad.add (i.toNat * 2 + j)) = some u := hc0
  obtain ⟨A1, c1, rfl, l1, g1⟩ := k61_open hK
  exact ⟨ad, A1, c1, e, hc 0 _ rfl, by rw [← add_field _ _ 1 (by omega)]; exact hc 1 _ rfl, l1, g1⟩

/-! #### struct type 34 -/
structure S34 where
  f0 : Int
  f1 : Int
  f2 : Int
  f3 : Int
def z34 : S34 := ⟨(0 : Int), (0 : Int), (0 : Int), (0 : Int)⟩
def k34 : Kd S34 := Kd.iso (Kd.pair (Kd.int .i64) (Kd.pair (Kd.int .i64) (Kd.pair (Kd.int .i64) (Kd.int .i64)))) (fun x : S34 => (x.f0, x.f1, x.f2, x.f3))
theorem k34_open {w : World} {x : S34} {cs : List Value} (h : k34.K w x cs) : cs = [.int .i64 x.f0, .int .i64 x.f1, .int .i64 x.f2, .int .i64 x.f3] := by
  obtain ⟨_, _, rfl, rfl, ⟨_, _, rfl, rfl, ⟨_, _, rfl, rfl, rfl⟩⟩⟩ := h
  exact rfl
theorem k34_openM {w : World} {base : Nat} {ok : Nat → Prop} {x : S34} {cs : List Value} (h : k34.M w base ok x cs) : cs = [.int .i64 x.f0, .int .i64 x.f1, .int .i64 x.f2, .int .i64 x.f3] := by
  obtain ⟨_, _, rfl, rfl, ⟨_, _, rfl, rfl, ⟨_, _, rfl, rfl, rfl⟩⟩⟩ := h
  exact rfl
theorem k34_mk (w : World) (x : S34)  : k34.K w x [.int .i64 x.f0, .int .i64 x.f1, .int .i64 x.f2, .int .i64 x.f3] := ⟨[.int .i64 x.f0], [.int .i64 x.f1, .int .i64 x.f2, .int .i64 x.f3], rfl, rfl, ⟨[.int .i64 x.f1], [.int .i64 x.f2, .int .i64 x.f3], rfl, rfl, ⟨[.int .i64 x.f2], [.int .i64 x.f3], rfl, rfl, rfl⟩⟩⟩
theorem k34_mkM (w : World) (base : Nat) (ok : Nat → Prop) (x : S34)  : k34.M w base ok x [.int .i64 x.f0, .int .i64 x.f1, .int .i64 x.f2, .int .i64 x.f3] := ⟨[.int .i64 x.f0], [.int .i64 x.f1, .int .i64 x.f2, .int .i64 x.f3], rfl, rfl, ⟨[.int .i64 x.f1], [.int .i64 x.f2, .int .i64 x.f3], rfl, rfl, ⟨[.int .i64 x.f2], [.int .i64 x.f3], rfl, rfl, rfl⟩⟩⟩
theorem k34_mkF (W : World) (ok : Nat → Prop) (x : S34) : Kd.FK k34 W ok x [.int .i64 x.f0, .int .i64 x.f1, .int .i64 x.f2, .int .i64 x.f3] := fun W2 _ => k34_mk W2 x
def rd_T34 (xs : List S34) (i : Int) : S34 := xs.getD i.toNat z34
theorem at_T34 {w : World} {A : Option Addr} {n : Nat} {xs : List S34} (h : Kd.C k34 w A n xs) (i : Int) (h0 : 0 ≤ i) (h1 : i < n) : ∃ ad , A = some ad ∧ w.cell? (ad.add (i.toNat * 4)) = some (.int .i64 (rd_T34 xs i).f0) ∧ w.cell? ⟨(ad.add (i.toNat * 4)).block, (ad.add (i.toNat * 4)).off + 1, none⟩ = some (.int .i64 (rd_T34 xs i).f1) ∧ w.cell? ⟨(ad.add (i.toNat * 4)).block, (ad.add (i.toNat * 4)).off + 2, none⟩ = some (.int .i64 (rd_T34 xs i).f2) ∧ w.cell? ⟨(ad.add (i.toNat * 4)).block, (ad.add (i.toNat * 4)).off + 3, none⟩ = some (.int .i64 (rd_T34 xs i).f3) := by
  obtain ⟨ad, c, e, _, hK, hc0⟩ := Kd.C_get h z34 i h0 h1
  have hc : ∀ j u, c[j]? = some u → w.cell? (ad.add (i.toNat * 4 + j)) = some u := hc0
  obtain rfl := k34_open hK
  exact ⟨ad, e, hc 0 _ rfl, by rw [← add_field _ _ 1 (by omega)]; exact hc 1 _ rfl, by rw [← add_field _ _ 2 (by omega)]; exact hc 2 _ rfl, by rw [← add_field _ _ 3 (by omega)]; exact hc 3 _ rfl⟩

/-! #### struct type 63 -/
structure S63 where
  f0 : Int
  f1 : (List Int)
def z63 : S63 := ⟨(0 : Int), ([] : List Int)⟩
def k63 : Kd S63 := Kd.iso (Kd.pair (Kd.int .u32) (Kd.slice 27 (Kd.int .u32))) (fun x : S63 => (x.f0, x.f1))
theorem k63_open {w : World} {x : S63} {cs : List Value} (h : k63.K w x cs) : ∃ A1 c1, cs = [.int .u32 x.f0, .slice A1 x.f1.length c1] ∧ x.f1.length ≤ c1 ∧ (Kd.int .u32).C w A1 x.f1.length x.f1 := by
  obtain ⟨_, _, rfl, rfl, ⟨A1, c1, rfl, l1, g1⟩⟩ := h
  exact ⟨A1, c1, rfl, l1, g1⟩
theorem k63_openM {w : World} {base : Nat} {ok : Nat → Prop} {x : S63} {cs : List Value} (h : k63.M w base ok x cs) : ∃ v1, cs = [.int .u32 x.f0, v1] ∧ (Kd.int .u32).R 27 w base ok v1 x.f1 := by
  obtain ⟨_, _, rfl, rfl, ⟨v1, rfl, g1⟩⟩ := h
  exact ⟨v1, rfl, g1⟩
theorem k63_mk (w : World) (x : S63) {A1 : Option Addr} {c1 : Nat} (l1 : x.f1.length ≤ c1) (g1 : (Kd.int .u32).C w A1 x.f1.length x.f1) : k63.K w x [.int .u32 x.f0, .slice A1 x.f1.length c1] := ⟨[.int .u32 x.f0], [.slice A1 x.f1.length c1], rfl, rfl, ⟨A1, c1, rfl, l1, g1⟩⟩
theorem k63_mkM (w : World) (base : Nat) (ok : Nat → Prop) (x : S63) {v1 : Value} (g1 : (Kd.int .u32).R 27 w base ok v1 x.f1) : k63.M w base ok x [.int .u32 x.f0, v1] := ⟨[.int .u32 x.f0], [v1], rfl, rfl, ⟨v1, rfl, g1⟩⟩
theorem k63_openF {W : World} {ok : Nat → Prop} {x : S63} {cs : List Value} (h : Kd.FK k63 W ok x cs) : ∃ A1 c1, cs = [.int .u32 x.f0, .slice A1 x.f1.length c1] ∧ x.f1.length ≤ c1 ∧ Kd.F (Kd.int .u32) W ok A1 x.f1.length x.f1 := by
  obtain ⟨A1, c1, rfl, l1, _⟩ := k63_open (Kd.FK_now h)
  exact ⟨A1, c1, rfl, l1, (fun W' hW => by obtain ⟨A1_, c1_, he, l1_, g1_⟩ := k63_open (h W' hW); injection (Option.some.inj (show some (Value.slice A1 x.f1.length c1) = some (Value.slice A1_ x.f1.length c1_) from congrArg (fun l => l[1]?) he)) with ha_ _ _; rw [ha_]; exact g1_)⟩
theorem k63_mkF (W : World) (ok : Nat → Prop) (x : S63) {A1 : Option Addr} {c1 : Nat} (l1 : x.f1.length ≤ c1) (g1 : Kd.F (Kd.int .u32) W ok A1 x.f1.length x.f1) : Kd.FK k63 W ok x [.int .u32 x.f0, .slice A1 x.f1.length c1] := fun W2 hW => k63_mk W2 x l1 (g1 W2 hW)
def rd_T63 (xs : List S63) (i : Int) : S63 := xs.getD i.toNat z63
theorem at_T63 {w : World} {A : Option Addr} {n : Nat} {xs : List S63} (h : Kd.C k63 w A n xs) (i : Int) (h0 : 0 ≤ i) (h1 : i < n) : ∃ ad A1 c1, A = some ad ∧ w.cell? (ad.add (i.toNat * 2)) = some (.int .u32 (rd_T63 xs i).f0) ∧ w.cell? ⟨(ad.add (i.toNat * 2)).block, (ad.add (i.toNat * 2)).off + 1, none⟩ = some (.slice A1 (rd_T63 xs i).f1.length c1) ∧ (rd_T63 xs i).f1.length ≤ c1 ∧ (Kd.int .u32).C w A1 (rd_T63 xs i).f1.length (rd_T63 xs i).f1 := by
  obtain ⟨ad, c, e, _, hK, hc0⟩ := Kd.C_get h z63 i h0 h1
  have hc : ∀ j u, c[j]? = some u → w.cell? (ad.add (i.toNat * 2 + j)) = some u := hc0
  obtain ⟨A1, c1, rfl, l1, g1⟩ := k63_open hK
  exact ⟨ad, A1, c1, e, hc 0 _ rfl, by rw [← add_field _ _ 1 (by omega)]; exact hc 1 _ rfl, l1, g1⟩

def rd_L9 (xs : List (List S63)) (i : Int) : (List S63) := xs.getD i.toNat ([] : List S63)
theorem at_L9 {w : World} {A : Option Addr} {n : Nat} {xs : List (List S63)} (h : Kd.C (Kd.slice 63 k63) w A n xs) (i : Int) (h0 : 0 ≤ i) (h1 : i < n) : ∃ ad A0 c0, A = some ad ∧ w.cell? (ad.add i.toNat) = some (.slice A0 (rd_L9 xs i).length c0) ∧ (rd_L9 xs i).length ≤ c0 ∧ k63.C w A0 (rd_L9 xs i).length (rd_L9 xs i) := by
  obtain ⟨ad, c, e, _, hK, hc0⟩ := Kd.C_get h ([] : List S63) i h0 h1
  have hc : ∀ j u, c[j]? = some u → w.cell? (ad.add (i.toNat * 1 + j)) = some u := hc0
  obtain ⟨A0, c0, rfl, l0, g0⟩ := hK
  exact ⟨ad, A0, c0, e, by have hq := hc 0 _ rfl; rwa [Nat.mul_one, Nat.add_zero] at hq, l0, g0⟩

/-! #### struct type 40 -/
structure S40 where
  f0 : S34
  f1 : (List S63)
  f2 : Int
def z40 : S40 := ⟨z34, ([] : List S63), (0 : Int)⟩
def k40 : Kd S40 := Kd.iso (Kd.pair k34 (Kd.pair (Kd.slice 63 k63) (Kd.int .u32))) (fun x : S40 => (x.f0, x.f1, x.f2))
theorem k40_open {w : World} {x : S40} {cs : List Value} (h : k40.K w x cs) : ∃ A4 c4, cs = [.int .i64 x.f0.f0, .int .i64 x.f0.f1, .int .i64 x.f0.f2, .int .i64 x.f0.f3, .slice A4 x.f1.length c4, .int .u32 x.f2] ∧ x.f1.length ≤ c4 ∧ k63.C w A4 x.f1.length x.f1 := by
  obtain ⟨_, _, rfl, s0, ⟨_, _, rfl, ⟨A4, c4, rfl, l4, g4⟩, rfl⟩⟩ := h
  obtain rfl := k34_open s0
  exact ⟨A4, c4, rfl, l4, g4⟩
theorem k40_openM {w : World} {base : Nat} {ok : Nat → Prop} {x : S40} {cs : List Value} (h : k40.M w base ok x cs) : ∃ v4, cs = [.int .i64 x.f0.f0, .int .i64 x.f0.f1, .int .i64 x.f0.f2, .int .i64 x.f0.f3, v4, .int .u32 x.f2] ∧ k63.R 63 w base ok v4 x.f1 := by
  obtain ⟨_, _, rfl, s0, ⟨_, _, rfl, ⟨v4, rfl, g4⟩, rfl⟩⟩ := h
  obtain rfl := k34_openM s0
  exact ⟨v4, rfl, g4⟩
theorem k40_mk (w : World) (x : S40) {A4 : Option Addr} {c4 : Nat} (l4 : x.f1.length ≤ c4) (g4 : k63.C w A4 x.f1.length x.f1) : k40.K w x [.int .i64 x.f0.f0, .int .i64 x.f0.f1, .int .i64 x.f0.f2, .int .i64 x.f0.f3, .slice A4 x.f1.length c4, .int .u32 x.f2] := ⟨[.int .i64 x.f0.f0, .int .i64 x.f0.f1, .int .i64 x.f0.f2, .int .i64 x.f0.f3], [.slice A4 x.f1.length c4, .int .u32 x.f2], rfl, (k34_mk w x.f0 ), ⟨[.slice A4 x.f1.length c4], [.int .u32 x.f2], rfl, ⟨A4, c4, rfl, l4, g4⟩, rfl⟩⟩
theorem k40_mkM (w : World) (base : Nat) (ok : Nat → Prop) (x : S40) {v4 : Value} (g4 : k63.R 63 w base ok v4 x.f1) : k40.M w base ok x [.int .i64 x.f0.f0, .int .i64 x.f0.f1, .int .i64 x.f0.f2, .int .i64 x.f0.f3, v4, .int .u32 x.f2] := ⟨[.int .i64 x.f0.f0, .int .i64 x.f0.f1, .int .i64 x.f0.f2, .int .i64 x.f0.f3], [v4, .int .u32 x.f2], rfl, (k34_mkM w base ok x.f0 ), ⟨[v4], [.int .u32 x.f2], rfl, ⟨v4, rfl, g4⟩, rfl⟩⟩
theorem k40_openF {W : World} {ok : Nat → Prop} {x : S40} {cs : List Value} (h : Kd.FK k40 W ok x cs) : ∃ A4 c4, cs = [.int .i64 x.f0.f0, .int .i64 x.f0.f1, .int .i64 x.f0.f2, .int .i64 x.f0.f3, .slice A4 x.f1.length c4, .int .u32 x.f2] ∧ x.f1.length ≤ c4 ∧ Kd.F k63 W ok A4 x.f1.length x.f1 := by
  obtain ⟨A4, c4, rfl, l4, _⟩ := k40_open (Kd.FK_now h)
  exact ⟨A4, c4, rfl, l4, (fun W' hW => by obtain ⟨A4_, c4_, he, l4_, g4_⟩ := k40_open (h W' hW); injection (Option.some.inj (show some (Value.slice A4 x.f1.length c4) = some (Value.slice A4_ x.f1.length c4_) from congrArg (fun l => l[4]?) he)) with ha_ _ _; rw [ha_]; exact g4_)⟩
theorem k40_mkF (W : World) (ok : Nat → Prop) (x : S40) {A4 : Option Addr} {c4 : Nat} (l4 : x.f1.length ≤ c4) (g4 : Kd.F k63 W ok A4 x.f1.length x.f1) : Kd.FK k40 W ok x [.int .i64 x.f0.f0, .int .i64 x.f0.f1, .int .i64 x.f0.f2, .int .i64 x.f0.f3, .slice A4 x.f1.length c4, .int .u32 x.f2] := fun W2 hW => k40_mk W2 x l4 (g4 W2 hW)
def rd_T40 (xs : List S40) (i : Int) : S40 := xs.getD i.toNat z40
theorem at_T40 {w : World} {A : Option Addr} {n : Nat} {xs : List S40} (h : Kd.C k40 w A n xs) (i : Int) (h0 : 0 ≤ i) (h1 : i < n) : ∃ ad A4 c4, A = some ad ∧ w.cell? (ad.add (i.toNat * 6)) = some (.int .i64 (rd_T40 xs i).f0.f0) ∧ w.cell? ⟨(ad.add (i.toNat * 6)).block, (ad.add (i.toNat * 6)).off + 1, none⟩ = some (.int .i64 (rd_T40 xs i).f0.f1) ∧ w.cell? ⟨(ad.add (i.toNat * 6)).block, (ad.add (i.toNat * 6)).off + 2, none⟩ = some (.int .i64 (rd_T40 xs i).f0.f2) ∧ w.cell? ⟨(ad.add (i.toNat * 6)).block, (ad.add (i.toNat * 6)).off + 3, none⟩ = some (.int .i64 (rd_T40 xs i).f0.f3) ∧ w.cell? ⟨(ad.add (i.toNat * 6)).block, (ad.add (i.toNat * 6)).off + 4, none⟩ = some (.slice A4 (rd_T40 xs i).f1.length c4) ∧ w.cell? ⟨(ad.add (i.toNat * 6)).block, (ad.add (i.toNat * 6)).off + 5, none⟩ = some (.int .u32 (rd_T40 xs i).f2) ∧ (rd_T40 xs i).f1.length ≤ c4 ∧ k63.C w A4 (rd_T40 xs i).f1.length (rd_T40 xs i).f1 := by
  obtain ⟨ad, c, e, _, hK, hc0⟩ := Kd.C_get h z40 i h0 h1
  have hc : ∀ j u, c[j]? = some u → w.cell? (ad.add (i.toNat * 6 + j)) = some u := hc0
  obtain ⟨A4, c4, rfl, l4, g4⟩ := k40_open hK
  exact ⟨ad, A4, c4, e, hc 0 _ rfl, by rw [← add_field _ _ 1 (by omega)]; exact hc 1 _ rfl, by rw [← add_field _ _ 2 (by omega)]; exact hc 2 _ rfl, by rw [← add_field _ _ 3 (by omega)]; exact hc 3 _ rfl, by rw [← add_field _ _ 4 (by omega)]; exact hc 4 _ rfl, by rw [← add_field _ _ 5 (by omega)]; exact hc 5 _ rfl, l4, g4⟩

/-! #### struct type 25 -/
structure S25 where
  f0 : (List Int)
  f1 : Bool
def z25 : S25 := ⟨([] : List Int), false⟩
def k25 : Kd S25 := Kd.iso (Kd.pair (Kd.slice 27 (Kd.int .u32)) Kd.bool) (fun x : S25 => (x.f0, x.f1))
theorem k25_open {w : World} {x : S25} {cs : List Value} (h : k25.K w x cs) : ∃ A0 c0, cs = [.slice A0 x.f0.length c0, .bool x.f1] ∧ x.f0.length ≤ c0 ∧ (Kd.int .u32).C w A0 x.f0.length x.f0 := by
  obtain ⟨_, _, rfl, ⟨A0, c0, rfl, l0, g0⟩, rfl⟩ := h
  exact ⟨A0, c0, rfl, l0, g0⟩
theorem k25_openM {w : World} {base : Nat} {ok : Nat → Prop} {x : S25} {cs : List Value} (h : k25.M w base ok x cs) : ∃ v0, cs = [v0, .bool x.f1] ∧ (Kd.int .u32).R 27 w base ok v0 x.f0 := by
  obtain ⟨_, _, rfl, ⟨v0, rfl, g0⟩, rfl⟩ := h
  exact ⟨v0, rfl, g0⟩
theorem k25_mk (w : World) (x : S25) {A0 : Option Addr} {c0 : Nat} (l0 : x.f0.length ≤ c0) (g0 : (Kd.int .u32).C w A0 x.f0.length x.f0) : k25.K w x [.slice A0 x.f0.length c0, .bool x.f1] := ⟨[.slice A0 x.f0.length c0], [.bool x.f1], rfl, ⟨A0, c0, rfl, l0, g0⟩, rfl⟩
theorem k25_mkM (w : World) (base : Nat) (ok : Nat → Prop) (x : S25) {v0 : Value} (g0 : (Kd.int .u32).R 27 w base ok v0 x.f0) : k25.M w base ok x [v0, .bool x.f1] := ⟨[v0], [.bool x.f1], rfl, ⟨v0, rfl, g0⟩, rfl⟩
theorem k25_openF {W : World} {ok : Nat → Prop} {x : S25} {cs : List Value} (h : Kd.FK k25 W ok x cs) : ∃ A0 c0, cs = [.slice A0 x.f0.length c0, .bool x.f1] ∧ x.f0.length ≤ c0 ∧ Kd.F (Kd.int .u32) W ok A0 x.f0.length x.f0 := by
  obtain ⟨A0, c0, rfl, l0, _⟩ := k25_open (Kd.FK_now h)
  exact ⟨A0, c0, rfl, l0, (fun W' hW => by obtain ⟨A0_, c0_, he, l0_, g0_⟩ := k25_open (h W' hW); injection (Option.some.inj (show some (Value.slice A0 x.f0.length c0) = some (Value.slice A0_ x.f0.length c0_) from congrArg (fun l => l[0]?) he)) with ha_ _ _; rw [ha_]; exact g0_)⟩
theorem k25_mkF (W : World) (ok : Nat → Prop) (x : S25) {A0 : Option Addr} {c0 : Nat} (l0 : x.f0.length ≤ c0) (g0 : Kd.F (Kd.int .u32) W ok A0 x.f0.length x.f0) : Kd.FK k25 W ok x [.slice A0 x.f0.length c0, .bool x.f1] := fun W2 hW => k25_mk W2 x l0 (g0 W2 hW)
def rd_T25 (xs : List S25) (i : Int) : S25 := xs.getD i.toNat z25
theorem at_T25 {w : World} {A : Option Addr} {n : Nat} {xs : List S25} (h : Kd.C k25 w A n xs) (i : Int) (h0 : 0 ≤ i) (h1 : i < n) : ∃ ad A0 c0, A = some ad ∧ w.cell? (ad.add (i.toNat * 2)) = some (.slice A0 (rd_T25 xs i).f0.length c0) ∧ w.cell? ⟨(ad.add (i.toNat * 2)).block, (ad.add (i.toNat * 2)).off + 1, none⟩ = some (.bool (rd_T25 xs i).f1) ∧ (rd_T25 xs i).f0.length ≤ c0 ∧ (Kd.int .u32).C w A0 (rd_T25 xs i).f0.length (rd_T25 xs i).f0 := by
  obtain ⟨ad, c, e, _, hK, hc0⟩ := Kd.C_get h z25 i h0 h1
  have hc : ∀ j u, c[j]? = some u → w.cell? (ad.add (i.toNat * 2 + j)) = some u := hc0
  obtain ⟨A0, c0, rfl, l0, g0⟩ := k25_open hK
  exact ⟨ad, A0, c0, e, hc 0 _ rfl, by rw [← add_field _ _ 1 (by omega)]; exact hc 1 _ rfl, l0, g0⟩

def rd_L12 (xs : List (List S61)) (i : Int) : (List S61) := xs.getD i.toNat ([] : List S61)
theorem at_L12 {w : World} {A : Option Addr} {n : Nat} {xs : List (List S61)} (h : Kd.C (Kd.slice 61 k61) w A n xs) (i : Int) (h0 : 0 ≤ i) (h1 : i < n) : ∃ ad A0 c0, A = some ad ∧ w.cell? (ad.add i.toNat) = some (.slice A0 (rd_L12 xs i).length c0) ∧ (rd_L12 xs i).length ≤ c0 ∧ k61.C w A0 (rd_L12 xs i).length (rd_L12 xs i) := by
  obtain ⟨ad, c, e, _, hK, hc0⟩ := Kd.C_get h ([] : List S61) i h0 h1
  have hc : ∀ j u, c[j]? = some u → w.cell? (ad.add (i.toNat * 1 + j)) = some u := hc0
  obtain ⟨A0, c0, rfl, l0, g0⟩ := hK
  exact ⟨ad, A0, c0, e, by have hq := hc 0 _ rfl; rwa [Nat.mul_one, Nat.add_zero] at hq, l0, g0⟩

/-! #### struct type 37 -/
structure S37 where
  f0 : (List S61)
def z37 : S37 := ⟨([] : List S61)⟩
def k37 : Kd S37 := Kd.iso (Kd.slice 61 k61) (fun x : S37 => x.f0)
theorem k37_open {w : World} {x : S37} {cs : List Value} (h : k37.K w x cs) : ∃ A0 c0, cs = [.slice A0 x.f0.length c0] ∧ x.f0.length ≤ c0 ∧ k61.C w A0 x.f0.length x.f0 := by
  obtain ⟨A0, c0, rfl, l0, g0⟩ := h
  exact ⟨A0, c0, rfl, l0, g0⟩
theorem k37_openM {w : World} {base : Nat} {ok : Nat → Prop} {x : S37} {cs : List Value} (h : k37.M w base ok x cs) : ∃ v0, cs = [v0] ∧ k61.R 61 w base ok v0 x.f0 := by
  obtain ⟨v0, rfl, g0⟩ := h
  exact ⟨v0, rfl, g0⟩
theorem k37_mk (w : World) (x : S37) {A0 : Option Addr} {c0 : Nat} (l0 : x.f0.length ≤ c0) (g0 : k61.C w A0 x.f0.length x.f0) : k37.K w x [.slice A0 x.f0.length c0] := ⟨A0, c0, rfl, l0, g0⟩
theorem k37_mkM (w : World) (base : Nat) (ok : Nat → Prop) (x : S37) {v0 : Value} (g0 : k61.R 61 w base ok v0 x.f0) : k37.M w base ok x [v0] := ⟨v0, rfl, g0⟩
theorem k37_openF {W : World} {ok : Nat → Prop} {x : S37} {cs : List Value} (h : Kd.FK k37 W ok x cs) : ∃ A0 c0, cs = [.slice A0 x.f0.length c0] ∧ x.f0.length ≤ c0 ∧ Kd.F k61 W ok A0 x.f0.length x.f0 := by
  obtain ⟨A0, c0, rfl, l0, _⟩ := k37_open (Kd.FK_now h)
  exact ⟨A0, c0, rfl, l0, (fun W' hW => by obtain ⟨A0_, c0_, he, l0_, g0_⟩ := k37_open (h W' hW); injection (Option.some.inj (show some (Value.slice A0 x.f0.length c0) = some (Value.slice A0_ x.f0.length c0_) from congrArg (fun l => l[0]?) he)) with ha_ _ _; rw [ha_]; exact g0_)⟩
theorem k37_mkF (W : World) (ok : Nat → Prop) (x : S37) {A0 : Option Addr} {c0 : Nat} (l0 : x.f0.length ≤ c0) (g0 : Kd.F k61 W ok A0 x.f0.length x.f0) : Kd.FK k37 W ok x [.slice A0 x.f0.length c0] := fun W2 hW => k37_mk W2 x l0 (g0 W2 hW)
def rd_T37 (xs : List S37) (i : Int) : S37 := xs.getD i.toNat z37
theorem at_T37 {w : World} {A : Option Addr} {n : Nat} {xs : List S37} (h : Kd.C k37 w A n xs) (i : Int) (h0 : 0 ≤ i) (h1 : i < n) : ∃ ad A0 c0, A = some ad ∧ w.cell? (ad.add i.toNat) = some (.slice A0 (rd_T37 xs i).f0.length c0) ∧ (rd_T37 xs i).f0.length ≤ c0 ∧ k61.C w A0 (rd_T37 xs i).f0.length (rd_T37 xs i).f0 := by
  obtain ⟨ad, c, e, _, hK, hc0⟩ := Kd.C_get h z37 i h0 h1
  have hc : ∀ j u, c[j]? = some u → w.cell? (ad.add (i.toNat * 1 + j)) = some u := hc0
  obtain ⟨A0, c0, rfl, l0, g0⟩ := k37_open hK
  exact ⟨ad, A0, c0, e, by have hq := hc 0 _ rfl; rwa [Nat.mul_one, Nat.add_zero] at hq, l0, g0⟩

/-! #### struct type 42 -/
structure S42 where
  f0 : S34
  f1 : S37
  f2 : (List Int)
  f3 : S40
def z42 : S42 := ⟨z34, z37, ([] : List Int), z40⟩
def k42 : Kd S42 := Kd.iso (Kd.pair k34 (Kd.pair k37 (Kd.pair (Kd.slice 27 (Kd.int .u32)) k40))) (fun x : S42 => (x.f0, x.f1, x.f2, x.f3))
theorem k42_open {w : World} {x : S42} {cs : List Value} (h : k42.K w x cs) : ∃ A4 c4 A5 c5 A10 c10, cs = [.int .i64 x.f0.f0, .int .i64 x.f0.f1, .int .i64 x.f0.f2, .int .i64 x.f0.f3, .slice A4 x.f1.f0.length c4, .slice A5 x.f2.length c5, .int .i64 x.f3.f0.f0, .int .i64 x.f3.f0.f1, .int .i64 x.f3.f0.f2, .int .i64 x.f3.f0.f3, .slice A10 x.f3.f1.length c10, .int .u32 x.f3.f2] ∧ x.f1.f0.length ≤ c4 ∧ k61.C w A4 x.f1.f0.length x.f1.f0 ∧ x.f2.length ≤ c5 ∧ (Kd.int .u32).C w A5 x.f2.length x.f2 ∧ x.f3.f1.length ≤ c10 ∧ k63.C w A10 x.f3.f1.length x.f3.f1 := by
  obtain ⟨_, _, rfl, s0, ⟨_, _, rfl, s4, ⟨_, _, rfl, ⟨A5, c5, rfl, l5, g5⟩, s6⟩⟩⟩ := h
  obtain rfl := k34_open s0
  obtain ⟨A4, c4, rfl, l4, g4⟩ := k37_open s4
  obtain ⟨A10, c10, rfl, l10, g10⟩ := k40_open s6
  exact ⟨A4, c4, A5, c5, A10, c10, rfl, l4, g4, l5, g5, l10, g10⟩
theorem k42_openM {w : World} {base : Nat} {ok : Nat → Prop} {x : S42} {cs : List Value} (h : k42.M w base ok x cs) : ∃ v4 v5 v10, cs = [.int .i64 x.f0.f0, .int .i64 x.f0.f1, .int .i64 x.f0.f2, .int .i64 x.f0.f3, v4, v5, .int .i64 x.f3.f0.f0, .int .i64 x.f3.f0.f1, .int .i64 x.f3.f0.f2, .int .i64 x.f3.f0.f3, v10, .int .u32 x.f3.f2] ∧ k61.R 61 w base ok v4 x.f1.f0 ∧ (Kd.int .u32).R 27 w base ok v5 x.f2 ∧ k63.R 63 w base ok v10 x.f3.f1 := by
  obtain ⟨_, _, rfl, s0, ⟨_, _, rfl, s4, ⟨_, _, rfl, ⟨v5, rfl, g5⟩, s6⟩⟩⟩ := h
  obtain rfl := k34_openM s0
  obtain ⟨v4, rfl, g4⟩ := k37_openM s4
  obtain ⟨v10, rfl, g10⟩ := k40_openM s6
  exact ⟨v4, v5, v10, rfl, g4, g5, g10⟩
theorem k42_mk (w : World) (x : S42) {A4 : Option Addr} {c4 : Nat} (l4 : x.f1.f0.length ≤ c4) (g4 : k61.C w A4 x.f1.f0.length x.f1.f0) {A5 : Option Addr} {c5 : Nat} (l5 : x.f2.length ≤ c5) (g5 : (Kd.int .u32).C w A5 x.f2.length x.f2) {A10 : Option Addr} {c10 : Nat} (l10 : x.f3.f1.length ≤ c10) (g10 : k63.C w A10 x.f3.f1.length x.f3.f1) : k42.K w x [.int .i64 x.f0.f0, .int .i64 x.f0.f1, .int .i64 x.f0.f2, .int .i64 x.f0.f3, .slice A4 x.f1.f0.length c4, .slice A5 x.f2.length c5, .int .i64 x.f3.f0.f0, .int .i64 x.f3.f0.f1, .int .i64 x.f3.f0.f2, .int .i64 x.f3.f0.f3, .slice A10 x.f3.f1.length c10, .int .u32 x.f3.f2] := ⟨[.int .i64 x.f0.f0, .int .i64 x.f0.f1, .int .i64 x.f0.f2, .int .i64 x.f0.f3], [.slice A4 x.f1.f0.length c4, .slice A5 x.f2.length c5, .int .i64 x.f3.f0.f0, .int .i64 x.f3.f0.f1, .int .i64 x.f3.f0.f2, .int .i64 x.f3.f0.f3, .slice A10 x.f3.f1.length c10, .int .u32 x.f3.f2], rfl, (k34_mk w x.f0 ), ⟨[.slice A4 x.f1.f0.length c4], [.slice A5 x.f2.length c5, .int .i64 x.f3.f0.f0, .int .i64 x.f3.f0.f1, .int .i64 x.f3.f0.f2, .int .i64 x.f3.f0.f3, .slice A10 x.f3.f1.length c10, .int .u32 x.f3.f2], rfl, (k37_mk w x.f1 l4 g4), ⟨[.slice A5 x.f2.length c5], [.int .i64 x.f3.f0.f0, .int .i64 x.f3.f0.f1, .int .i64 x.f3.f0.f2, .int .i64 x.f3.f0.f3, .slice A10 x.f3.f1.length c10, .int .u32 x.f3.f2], rfl, ⟨A5, c5, rfl, l5, g5⟩, (k40_mk w x.f3 l10 g10)⟩⟩⟩
theorem k42_mkM (w : World) (base : Nat) (ok : Nat → Prop) (x : S42) {v4 : Value} (g4 : k61.R 61 w base ok v4 x.f1.f0) {v5 : Value} (g5 : (Kd.int .u32).R 27 w base ok v5 x.f2) {v10 : Value} (g10 : k63.R 63 w base ok v10 x.f3.f1) : k42.M w base ok x [.int .i64 x.f0.f0, .int .i64 x.f0.f1, .int .i64 x.f0.f2, .int .i64 x.f0.f3, v4, v5, .int .i64 x.f3.f0.f0, .int .i64 x.f3.f0.f1, .int .i64 x.f3.f0.f2, .int .i64 x.f3.f0.f3, v10, .int .u32 x.f3.f2] := ⟨[.int .i64 x.f0.f0, .int .i64 x.f0.f1, .int .i64 x.f0.f2, .int .i64 x.f0.f3], [v4, v5, .int .i64 x.f3.f0.f0, .int .i64 x.f3.f0.f1, .int .i64 x.f3.f0.f2, .int .i64 x.f3.f0.f3, v10, .int .u32 x.f3.f2], rfl, (k34_mkM w base ok x.f0 ), ⟨[v4], [v5, .int .i64 x.f3.f0.f0, .int .i64 x.f3.f0.f1, .int .i64 x.f3.f0.f2, .int .i64 x.f3.f0.f3, v10, .int .u32 x.f3.f2], rfl, (k37_mkM w base ok x.f1 g4), ⟨[v5], [.int .i64 x.f3.f0.f0, .int .i64 x.f3.f0.f1, .int .i64 x.f3.f0.f2, .int .i64 x.f3.f0.f3, v10, .int .u32 x.f3.f2], rfl, ⟨v5, rfl, g5⟩, (k40_mkM w base ok x.f3 g10)⟩⟩⟩
theorem k42_openF {W : World} {ok : Nat → Prop} {x : S42} {cs : List Value} (h : Kd.FK k42 W ok x cs) : ∃ A4 c4 A5 c5 A10 c10, cs = [.int .i64 x.f0.f0, .int .i64 x.f0.f1, .int .i64 x.f0.f2, .int .i64 x.f0.f3, .slice A4 x.f1.f0.length c4, .slice A5 x.f2.length c5, .int .i64 x.f3.f0.f0, .int .i64 x.f3.f0.f1, .int .i64 x.f3.f0.f2, .int .i64 x.f3.f0.f3, .slice A10 x.f3.f1.length c10, .int .u32 x.f3.f2] ∧ x.f1.f0.length ≤ c4 ∧ Kd.F k61 W ok A4 x.f1.f0.length x.f1.f0 ∧ x.f2.length ≤ c5 ∧ Kd.F (Kd.int .u32) W ok A5 x.f2.length x.f2 ∧ x.f3.f1.length ≤ c10 ∧ Kd.F k63 W ok A10 x.f3.f1.length x.f3.f1 := by
  obtain ⟨A4, c4, A5, c5, A10, c10, rfl, l4, _, l5, _, l10, _⟩ := k42_open (Kd.FK_now h)
  exact ⟨A4, c4, A5, c5, A10, c10, rfl, l4, (fun W' hW => by obtain ⟨A4_, c4_, A5_, c5_, A10_, c10_, he, l4_, g4_, l5_, g5_, l10_, g10_⟩ := k42_open (h W' hW); injection (Option.some.inj (show some (Value.slice A4 x.f1.f0.length c4) = some (Value.slice A4_ x.f1.f0.length c4_) from congrArg (fun l => l[4]?) he)) with ha_ _ _; rw [ha_]; exact g4_), l5, (fun W' hW => by obtain ⟨A4_, c4_, A5_, c5_, A10_, c10_, he, l4_, g4_, l5_, g5_, l10_, g10_⟩ := k42_open (h W' hW); injection (Option.some.inj (show some (Value.slice A5 x.f2.length c5) = some (Value.slice A5_ x.f2.length c5_) from congrArg (fun l => l[5]?) he)) with ha_ _ _; rw [ha_]; exact g5_), l10, (fun W' hW => by obtain ⟨A4_, c4_, A5_, c5_, A10_, c10_, he, l4_, g4_, l5_, g5_, l10_, g10_⟩ := k42_open (h W' hW); injection (Option.some.inj (show some (Value.slice A10 x.f3.f1.length c10) = some (Value.slice A10_ x.f3.f1.length c10_) from congrArg (fun l => l[10]?) he)) with ha_ _ _; rw [ha_]; exact g10_)⟩
theorem k42_mkF (W : World) (ok : Nat → Prop) (x : S42) {A4 : Option Addr} {c4 : Nat} (l4 : x.f1.f0.length ≤ c4) (g4 : Kd.F k61 W ok A4 x.f1.f0.length x.f1.f0) {A5 : Option Addr} {c5 : Nat} (l5 : x.f2.length ≤ c5) (g5 : Kd.F (Kd.int .u32) W ok A5 x.f2.length x.f2) {A10 : Option Addr} {c10 : Nat} (l10 : x.f3.f1.length ≤ c10) (g10 : Kd.F k63 W ok A10 x.f3.f1.length x.f3.f1) : Kd.FK k42 W ok x [.int .i64 x.f0.f0, .int .i64 x.f0.f1, .int .i64 x.f0.f2, .int .i64 x.f0.f3, .slice A4 x.f1.f0.length c4, .slice A5 x.f2.length c5, .int .i64 x.f3.f0.f0, .int .i64 x.f3.f0.f1, .int .i64 x.f3.f0.f2, .int .i64 x.f3.f0.f3, .slice A10 x.f3.f1.length c10, .int .u32 x.f3.f2] := fun W2 hW => k42_mk W2 x l4 (g4 W2 hW) l5 (g5 W2 hW) l10 (g10 W2 hW)
def rd_T42 (xs : List S42) (i : Int) : S42 := xs.getD i.toNat z42
theorem at_T42 {w : World} {A : Option Addr} {n : Nat} {xs : List S42} (h : Kd.C k42 w A n xs) (i : Int) (h0 : 0 ≤ i) (h1 : i < n) : ∃ ad A4 c4 A5 c5 A10 c10, A = some ad ∧ w.cell? (ad.add (i.toNat * 12)) = some (.int .i64 (rd_T42 xs i).f0.f0) ∧ w.cell? ⟨(ad.add (i.toNat * 12)).block, (ad.add (i.toNat * 12)).off + 1, none⟩ = some (.int .i64 (rd_T42 xs i).f0.f1) ∧ w.cell? ⟨(ad.add (i.toNat * 12)).block, (ad.add (i.toNat * 12)).off + 2, none⟩ = some (.int .i64 (rd_T42 xs i).f0.f2) ∧ w.cell? ⟨(ad.add (i.toNat * 12)).block, (ad.add (i.toNat * 12)).off + 3, none⟩ = some (.int .i64 (rd_T42 xs i).f0.f3) ∧ w.cell? ⟨(ad.add (i.toNat * 12)).block, (ad.add (i.toNat * 12)).off + 4, none⟩ = some (.slice A4 (rd_T42 xs i).f1.f0.length c4) ∧ w.cell? ⟨(ad.add (i.toNat * 12)).block, (ad.add (i.toNat * 12)).off + 5, none⟩ = some (.slice A5 (rd_T42 xs i).f2.length c5) ∧ w.cell? ⟨(ad.add (i.toNat * 12)).block, (ad.add (i.toNat * 12)).off + 6, none⟩ = some (.int .i64 (rd_T42 xs i).f3.f0.f0) ∧ w.cell? ⟨(ad.add (i.toNat * 12)).block, (ad.add (i.toNat * 12)).off + 7, none⟩ = some (.int .i64 (rd_T42 xs i).f3.f0.f1) ∧ w.cell? ⟨(ad.add (i.toNat * 12)).block, (ad.add (i.toNat * 12)).off + 8, none⟩ = some (.int .i64 (rd_T42 xs i).f3.f0.f2) ∧ w.cell? ⟨(ad.add (i.toNat * 12)).block, (ad.add (i.toNat * 12)).off + 9, none⟩ = some (.int .i64 (rd_T42 xs i).f3.f0.f3) ∧ w.cell? ⟨(ad.add (i.toNat * 12)).block, (ad.add (i.toNat * 12)).off + 10, none⟩ = some (.slice A10 (rd_T42 xs i).f3.f1.length c10) ∧ w.cell? ⟨(ad.add (i.toNat * 12)).block, (ad.add (i.toNat * 12)).off + 11, none⟩ = some (.int .u32 (rd_T42 xs i).f3.f2) ∧ (rd_T42 xs i).f1.f0.length ≤ c4 ∧ k61.C w A4 (rd_T42 xs i).f1.f0.length (rd_T42 xs i).f1.f0 ∧ (rd_T42 xs i).f2.length ≤ c5 ∧ (Kd.int .u32).C w A5 (rd_T42 xs i).f2.length (rd_T42 xs i).f2 ∧ (rd_T42 xs i).f3.f1.length ≤ c10 ∧ k63.C w A10 (rd_T42 xs i).f3.f1.length (rd_T42 xs i).f3.f1 := by
  obtain ⟨ad, c, e, _, hK, hc0⟩ := Kd.C_get h z42 i h0 h1
  have hc : ∀ j u, c[j]? = some u → w.cell? (ad.add (i.toNat * 12 + j)) = some u := hc0
  obtain ⟨A4, c4, A5, c5, A10, c10, rfl, l4, g4, l5, g5, l10, g10⟩ := k42_open hK
  exact ⟨ad, A4, c4, A5, c5, A10, c10, e, hc 0 _ rfl, by rw [← add_field _ _ 1 (by omega)]; exact hc 1 _ rfl, by rw [← add_field _ _ 2 (by omega)]; exact hc 2 _ rfl, by rw [← add_field _ _ 3 (by omega)]; exact hc 3 _ rfl, by rw [← add_field _ _ 4 (by omega)]; exact hc 4 _ rfl, by rw [← add_field _ _ 5 (by omega)]; exact hc 5 _ rfl, by rw [← add_field _ _ 6 (by omega)]; exact hc 6 _ rfl, by rw [← add_field _ _ 7 (by omega)]; exact hc 7 _ rfl, by rw [← add_field _ _ 8 (by omega)]; exact hc 8 _ rfl, by rw [← add_field _ _ 9 (by omega)]; exact hc 9 _ rfl, by rw [← add_field _ _ 10 (by omega)]; exact hc 10 _ rfl, by rw [← add_field _ _ 11 (by omega)]; exact hc 11 _ rfl, l4, g4, l5, g5, l10, g10⟩

/-! #### the walks' own short words -/
section
variable {P : Program} {md : Region.Mode} {ops : Array Oper} {Q : Exit → Act → World → Prop} {S : World → Prop} {ds : List Nat}
theorem pu_ {T : Bool × List (List Nat × List Nat)} (i : Nat) (N : Option Tmp) (HT : Aside0 (rtab md ops = T)) {oi : Oper} {fuel : Nat} {l : Array Bool} {a : Act} {w : World} (hi : ops[i]? = some oi := by rfl) (hN : oi.dst = N := by rfl) {l' : Array Bool} (hl : l.setIfInBounds i true = l' := by (simp only [List.setIfInBounds_toArray, List.set_cons_zero, List.set_cons_succ]; rfl)) (hc : anyT T l.toList l'.toList i = true := by kernel_rfl)
    (hQ : ∀ c a w, Q (.panic c) (a.put oi.dst undef) w → Q (.panic c) a w := by exact fun _ _ _ h => h) (hy : Yields P ops oi undef a := by exact Or.inr ⟨by rfl, rfl⟩) {a' : Act} (ha : a.put N undef = a' := by (simp only [Act.put, List.setIfInBounds_toArray, List.set_cons_zero, List.set_cons_succ, i64_w, i32_w]; rfl))
    (h : wpAnyLast P md ops Q S ds fuel l' a' w) : wpAnyLast P md ops Q S ds (fuel + 1) l a w := by subst hl; exact pure_ (l.setIfInBounds i true) hi hN (any_of HT.out hc) hQ hy ha h
theorem pv_ {T : Bool × List (List Nat × List Nat)} (i : Nat) (N : Option Tmp) (HT : Aside0 (rtab md ops = T)) {oi : Oper} {v : Value} {fuel : Nat} {l : Array Bool} {a : Act} {w : World} (hi : ops[i]? = some oi := by rfl) (hN : oi.dst = N := by rfl) {l' : Array Bool} (hl : l.setIfInBounds i true = l' := by (simp only [List.setIfInBounds_toArray, List.set_cons_zero, List.set_cons_succ]; rfl)) (hc : anyT T l.toList l'.toList i = true := by kernel_rfl)
    (hQ : ∀ c a w, Q (.panic c) (a.put oi.dst v) w → Q (.panic c) a w := by exact fun _ _ _ h => h) (hy : Yields P ops oi v a := by (refine Or.inl ⟨by rfl, ?_⟩; intro w'; go_simp; with_reducible rfl)) {a' : Act} (ha : a.put N v = a' := by (simp only [Act.put, List.setIfInBounds_toArray, List.set_cons_zero, List.set_cons_succ, i64_w, i32_w]; rfl))
    (h : wpAnyLast P md ops Q S ds fuel l' a' w) : wpAnyLast P md ops Q S ds (fuel + 1) l a w := by subst hl; exact pure_ (l.setIfInBounds i true) hi hN (any_of HT.out hc) hQ hy ha h
theorem tk_ {T : Bool × List (List Nat × List Nat)} {B : List Nat} (i : Nat) (N : Option Tmp) (HT : Aside0 (rtab md ops = T)) (HW : Aside0 (waitsOk T.2 B = true)) {oi : Oper} {v : Value} {fuel : Nat} {l : Array Bool} {a : Act} {w : World} (hS : S w) (hi : ops[i]? = some oi := by rfl) (hN : oi.dst = N := by rfl) {l' : Array Bool} (hl : l.setIfInBounds i true = l' := by (simp only [List.setIfInBounds_toArray, List.set_cons_zero, List.set_cons_succ]; rfl)) (hc : takeW T B ds l.toList l'.toList i = true := by kernel_rfl)
    (hQ : ∀ c a w, Q (.panic c) (a.put oi.dst v) w → Q (.panic c) a w := by exact fun _ _ _ h => h) (hy : YieldsIf P ops S oi v a := by (refine Or.inl ⟨by rfl, ?_⟩; intro w' hs; (repeat (have hs_ := And.left hs; replace hs := And.right hs)); go_simp; with_reducible rfl)) {a' : Act} (ha : a.put N v = a' := by (simp only [Act.put, List.setIfInBounds_toArray, List.set_cons_zero, List.set_cons_succ, i64_w, i32_w]; rfl))
    (h : wpAnyLast P md ops Q S ds fuel l' a' w) : wpAnyLast P md ops Q S ds (fuel + 1) l a w := by subst hl; exact take_ (l.setIfInBounds i true) hi hN (take_ofW HT.out HW.out hc) hQ hy hS ha h
end
theorem bk_ {w w' : World} {g : Nat} {o : Obj} (h : Aside0 (w.heap[g]? = some o)) (k : w'.heap[g]? = some o := by ((with_reducible repeat (first | refine blk_drewN ?_ _ | refine blk_drew ?_ | refine blk_alloc ?_ _)); (first | (with_reducible exact Aside0.out (by assumption)) | exact Aside0.out (by assumption)))) : w'.heap[g]? = some o := k
theorem bp_ {w w' : World} {g : Nat} {o' o : Obj} (h : Aside0 (w.heap[g]? = some o')) (k : w'.heap[g]? = some o := by ((repeat (first | (with_reducible refine blk_drewN ?_ _) | (with_reducible refine blk_drew ?_) | (with_reducible refine blk_alloc ?_ _) | (with_reducible apply blk_put) | (with_reducible apply blk_far))); (first | (with_reducible exact Aside0.out (by assumption)) | exact Aside0.out (by assumption)); all_goals first | (simp only [List.setIfInBounds_toArray, List.set_cons_zero, List.set_cons_succ]; done) | (simp only [List.setIfInBounds_toArray, List.set_cons_zero, List.set_cons_succ]; rfl) | exact Aside0.out (by assumption))) : w'.heap[g]? = some o := k
theorem bf_ {w w' : World} {g : Nat} {o : Obj} (h : Aside0 (w.heap[g]? = some o)) (k : w'.heap[g]? = some o := by ((with_reducible repeat (first | refine blk_drewN ?_ _ | refine blk_drew ?_ | refine blk_alloc ?_ _ | refine blk_far ?_ (Aside0.out (by assumption)) _)); (first | (with_reducible exact Aside0.out (by assumption)) | exact Aside0.out (by assumption)))) : w'.heap[g]? = some o := k
section
variable {α : Type} {d : Kd α} {e : Nat} {w w' : World} {base : Nat} {ok : Nat → Prop} {v : Value} {xs : List α}
theorem rk_ (h : Aside0 (d.R e w base ok v xs)) (k : d.R e w' base ok v xs := by ((with_reducible repeat (first | apply Kd.R_alloc | apply Kd.R_drewN | apply Kd.R_drew)); (first | (with_reducible exact Aside0.out (by assumption)) | exact Aside0.out (by assumption)))) : d.R e w' base ok v xs := k
theorem far2 (g : Nat) {u0 u1 : Value} (h : d.R e w base ok v xs) (hk : ∀ k, ok k → k ≠ g) : d.R e ((w.setCell ⟨g, 0, none⟩ u0).setCell ⟨g, 1, none⟩ u1) base ok v xs := Kd.R_far (p := ⟨g, 1, none⟩) (Kd.R_far (p := ⟨g, 0, none⟩) h hk u0) hk u1
theorem far12 (g : Nat) {u0 u1 u2 u3 u4 u5 u6 u7 u8 u9 u10 u11 : Value} (h : Kd.R d e w base ok v xs) (hk : ∀ k, ok k → k ≠ g) : Kd.R d e ((((((((((((w.setCell ⟨g, 0, none⟩ u0).setCell ⟨g, 1, none⟩ u1).setCell ⟨g, 2, none⟩ u2).setCell ⟨g, 3, none⟩ u3).setCell ⟨g, 4, none⟩ u4).setCell ⟨g, 5, none⟩ u5).setCell ⟨g, 6, none⟩ u6).setCell ⟨g, 7, none⟩ u7).setCell ⟨g, 8, none⟩ u8).setCell ⟨g, 9, none⟩ u9).setCell ⟨g, 10, none⟩ u10).setCell ⟨g, 11, none⟩ u11) base ok v xs := (Kd.R_far (p := ⟨g, 11, none⟩) (Kd.R_far (p := ⟨g, 10, none⟩) (Kd.R_far (p := ⟨g, 9, none⟩) (Kd.R_far (p := ⟨g, 8, none⟩) (Kd.R_far (p := ⟨g, 7, none⟩) (Kd.R_far (p := ⟨g, 6, none⟩) (Kd.R_far (p := ⟨g, 5, none⟩) (Kd.R_far (p := ⟨g, 4, none⟩) (Kd.R_far (p := ⟨g, 3, none⟩) (Kd.R_far (p := ⟨g, 2, none⟩) (Kd.R_far (p := ⟨g, 1, none⟩) (Kd.R_far (p := ⟨g, 0, none⟩) h hk u0) hk u1) hk u2) hk u3) hk u4) hk u5) hk u6) hk u7) hk u8) hk u9) hk u10) hk u11)
theorem far2V (g : Nat) {u0 u1 : Value} (h : Kd.V d e w base ok v xs) (hk : ∀ k, ok k → k ≠ g) : Kd.V d e ((w.setCell ⟨g, 0, none⟩ u0).setCell ⟨g, 1, none⟩ u1) base ok v xs := (Kd.V_far (p := ⟨g, 1, none⟩) (Kd.V_far (p := ⟨g, 0, none⟩) h hk u0) hk u1)
theorem far6V (g : Nat) {u0 u1 u2 u3 u4 u5 : Value} (h : Kd.V d e w base ok v xs) (hk : ∀ k, ok k → k ≠ g) : Kd.V d e ((((((w.setCell ⟨g, 0, none⟩ u0).setCell ⟨g, 1, none⟩ u1).setCell ⟨g, 2, none⟩ u2).setCell ⟨g, 3, none⟩ u3).setCell ⟨g, 4, none⟩ u4).setCell ⟨g, 5, none⟩ u5) base ok v xs := (Kd.V_far (p := ⟨g, 5, none⟩) (Kd.V_far (p := ⟨g, 4, none⟩) (Kd.V_far (p := ⟨g, 3, none⟩) (Kd.V_far (p := ⟨g, 2, none⟩) (Kd.V_far (p := ⟨g, 1, none⟩) (Kd.V_far (p := ⟨g, 0, none⟩) h hk u0) hk u1) hk u2) hk u3) hk u4) hk u5)
theorem far12V (g : Nat) {u0 u1 u2 u3 u4 u5 u6 u7 u8 u9 u10 u11 : Value} (h : Kd.V d e w base ok v xs) (hk : ∀ k, ok k → k ≠ g) : Kd.V d e ((((((((((((w.setCell ⟨g, 0, none⟩ u0).setCell ⟨g, 1, none⟩ u1).setCell ⟨g, 2, none⟩ u2).setCell ⟨g, 3, none⟩ u3).setCell ⟨g, 4, none⟩ u4).setCell ⟨g, 5, none⟩ u5).setCell ⟨g, 6, none⟩ u6).setCell ⟨g, 7, none⟩ u7).setCell ⟨g, 8, none⟩ u8).setCell ⟨g, 9, none⟩ u9).setCell ⟨g, 10, none⟩ u10).setCell ⟨g, 11, none⟩ u11) base ok v xs := (Kd.V_far (p := ⟨g, 11, none⟩) (Kd.V_far (p := ⟨g, 10, none⟩) (Kd.V_far (p := ⟨g, 9, none⟩) (Kd.V_far (p := ⟨g, 8, none⟩) (Kd.V_far (p := ⟨g, 7, none⟩) (Kd.V_far (p := ⟨g, 6, none⟩) (Kd.V_far (p := ⟨g, 5, none⟩) (Kd.V_far (p := ⟨g, 4, none⟩) (Kd.V_far (p := ⟨g, 3, none⟩) (Kd.V_far (p := ⟨g, 2, none⟩) (Kd.V_far (p := ⟨g, 1, none⟩) (Kd.V_far (p := ⟨g, 0, none⟩) h hk u0) hk u1) hk u2) hk u3) hk u4) hk u5) hk u6) hk u7) hk u8) hk u9) hk u10) hk u11)
theorem far6 (g : Nat) {u0 u1 u2 u3 u4 u5 : Value} (h : d.R e w base ok v xs) (hk : ∀ k, ok k → k ≠ g) : d.R e ((((((w.setCell ⟨g, 0, none⟩ u0).setCell ⟨g, 1, none⟩ u1).setCell ⟨g, 2, none⟩ u2).setCell ⟨g, 3, none⟩ u3).setCell ⟨g, 4, none⟩ u4).setCell ⟨g, 5, none⟩ u5) base ok v xs :=
  Kd.R_far (p := ⟨g, 5, none⟩) (Kd.R_far (p := ⟨g, 4, none⟩) (Kd.R_far (p := ⟨g, 3, none⟩) (Kd.R_far (p := ⟨g, 2, none⟩) (Kd.R_far (p := ⟨g, 1, none⟩) (Kd.R_far (p := ⟨g, 0, none⟩) h hk u0) hk u1) hk u2) hk u3) hk u4) hk u5
end
theorem bs_ {n : Nat} {w w' : World} (k : Below n w w' := by repeat (first | (with_reducible first | exact Aside0.out (by assumption) | apply below_alloc | apply pw_below_drewN | apply below_drew1 | refine below_set ?_ (Aside0.out (by assumption))) | exact Aside0.out (by assumption))) : Below n w w' := k
theorem eq_ {α : Sort _} {a b : α} (k : a = b := by first | rfl | (simp; done) | (simp [*]; done) | (simp [*]; unfold wrap64; omega)) : a = b := k
theorem blk2 {w : World} {g : Nat} {t : TypeId} {a b : Value} (h : Aside0 (w.heap[g]? = some (.cells #[a, b] t (0, 0)))) : w.cell? ⟨g, 0, none⟩ = some a ∧ w.cell? ⟨g, 1, none⟩ = some b ∧ w.frozen? ⟨g, 0, none⟩ = false ∧ w.frozen? ⟨g, 1, none⟩ = false := ⟨blk_cell h.out 0, blk_cell h.out 1, blk_frozen h.out 0, blk_frozen h.out 1⟩
theorem blk4 {w : World} {g : Nat} {t : TypeId} {a b c d : Value} (h : Aside0 (w.heap[g]? = some (.cells #[a, b, c, d] t (0, 0)))) : w.cell? ⟨g, 0, none⟩ = some a ∧ w.cell? ⟨g, 1, none⟩ = some b ∧ w.cell? ⟨g, 2, none⟩ = some c ∧ w.cell? ⟨g, 3, none⟩ = some d ∧ w.frozen? ⟨g, 0, none⟩ = false ∧ w.frozen? ⟨g, 1, none⟩ = false ∧ w.frozen? ⟨g, 2, none⟩ = false ∧ w.frozen? ⟨g, 3, none⟩ = false := ⟨blk_cell h.out 0, blk_cell h.out 1, blk_cell h.out 2, blk_cell h.out 3, blk_frozen h.out 0, blk_frozen h.out 1, blk_frozen h.out 2, blk_frozen h.out 3⟩
theorem blk5 {w : World} {g : Nat} {t : TypeId} {a b c d e : Value} (h : Aside0 (w.heap[g]? = some (.cells #[a, b, c, d, e] t (0, 0)))) : w.cell? ⟨g, 0, none⟩ = some a ∧ w.cell? ⟨g, 1, none⟩ = some b ∧ w.cell? ⟨g, 2, none⟩ = some c ∧ w.cell? ⟨g, 3, none⟩ = some d ∧ w.cell? ⟨g, 4, none⟩ = some e ∧ w.frozen? ⟨g, 0, none⟩ = false ∧ w.frozen? ⟨g, 1, none⟩ = false ∧ w.frozen? ⟨g, 2, none⟩ = false ∧ w.frozen? ⟨g, 3, none⟩ = false ∧ w.frozen? ⟨g, 4, none⟩ = false := ⟨blk_cell h.out 0, blk_cell h.out 1, blk_cell h.out 2, blk_cell h.out 3, blk_cell h.out 4, blk_frozen h.out 0, blk_frozen h.out 1, blk_frozen h.out 2, blk_frozen h.out 3, blk_frozen h.out 4⟩
theorem blk6 {w : World} {g : Nat} {t : TypeId} {a b c d e f : Value} (h : Aside0 (w.heap[g]? = some (.cells #[a, b, c, d, e, f] t (0, 0)))) : w.cell? ⟨g, 0, none⟩ = some a ∧ w.cell? ⟨g, 1, none⟩ = some b ∧ w.cell? ⟨g, 2, none⟩ = some c ∧ w.cell? ⟨g, 3, none⟩ = some d ∧ w.cell? ⟨g, 4, none⟩ = some e ∧ w.cell? ⟨g, 5, none⟩ = some f ∧ w.frozen? ⟨g, 0, none⟩ = false ∧ w.frozen? ⟨g, 1, none⟩ = false ∧ w.frozen? ⟨g, 2, none⟩ = false ∧ w.frozen? ⟨g, 3, none⟩ = false ∧ w.frozen? ⟨g, 4, none⟩ = false ∧ w.frozen? ⟨g, 5, none⟩ = false := ⟨blk_cell h.out 0, blk_cell h.out 1, blk_cell h.out 2, blk_cell h.out 3, blk_cell h.out 4, blk_cell h.out 5, blk_frozen h.out 0, blk_frozen h.out 1, blk_frozen h.out 2, blk_frozen h.out 3, blk_frozen h.out 4, blk_frozen h.out 5⟩
theorem blk12 {w : World} {g : Nat} {t : TypeId} {c0 c1 c2 c3 c4 c5 c6 c7 c8 c9 c10 c11 : Value} (h : Aside0 (w.heap[g]? = some (.cells #[c0, c1, c2, c3, c4, c5, c6, c7, c8, c9, c10, c11] t (0, 0)))) : w.cell? ⟨g, 0, none⟩ = some c0 ∧ w.cell? ⟨g, 1, none⟩ = some c1 ∧ w.cell? ⟨g, 2, none⟩ = some c2 ∧ w.cell? ⟨g, 3, none⟩ = some c3 ∧ w.cell? ⟨g, 4, none⟩ = some c4 ∧ w.cell? ⟨g, 5, none⟩ = some c5 ∧ w.cell? ⟨g, 6, none⟩ = some c6 ∧ w.cell? ⟨g, 7, none⟩ = some c7 ∧ w.cell? ⟨g, 8, none⟩ = some c8 ∧ w.cell? ⟨g, 9, none⟩ = some c9 ∧ w.cell? ⟨g, 10, none⟩ = some c10 ∧ w.cell? ⟨g, 11, none⟩ = some c11 ∧ w.frozen? ⟨g, 0, none⟩ = false ∧ w.frozen? ⟨g, 1, none⟩ = false ∧ w.frozen? ⟨g, 2, none⟩ = false ∧ w.frozen? ⟨g, 3, none⟩ = false ∧ w.frozen? ⟨g, 4, none⟩ = false ∧ w.frozen? ⟨g, 5, none⟩ = false ∧ w.frozen? ⟨g, 6, none⟩ = false ∧ w.frozen? ⟨g, 7, none⟩ = false ∧ w.frozen? ⟨g, 8, none⟩ = false ∧ w.frozen? ⟨g, 9, none⟩ = false ∧ w.frozen? ⟨g, 10, none⟩ = false ∧ w.frozen? ⟨g, 11, none⟩ = false := ⟨blk_cell h.out 0, blk_cell h.out 1, blk_cell h.out 2, blk_cell h.out 3, blk_cell h.out 4, blk_cell h.out 5, blk_cell h.out 6, blk_cell h.out 7, blk_cell h.out 8, blk_cell h.out 9, blk_cell h.out 10, blk_cell h.out 11, blk_frozen h.out 0, blk_frozen h.out 1, blk_frozen h.out 2, blk_frozen h.out 3, blk_frozen h.out 4, blk_frozen h.out 5, blk_frozen h.out 6, blk_frozen h.out 7, blk_frozen h.out 8, blk_frozen h.out 9, blk_frozen h.out 10, blk_frozen h.out 11⟩
end Go.Proofs.Ytlboachgeepadaa.P
