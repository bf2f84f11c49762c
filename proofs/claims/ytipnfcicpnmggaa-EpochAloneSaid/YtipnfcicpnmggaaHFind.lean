/- What gone image.find answers. -/
import Derived.Test.YtipnfcicpnmggaaPx0
import Derived.Lib.Hide
namespace Go.Proofs.Ytipnfcicpnmggaa.P
open Go.RowKit Go.Proofs.YtipnfcicpnmggaaW.PrintWords Go.Proofs.YtipnfcicpnmggaaW.PrintLast Go.Proofs.YtipnfcicpnmggaaW.PrintMore
set_option linter.unusedVariables false
set_option linter.unusedSimpArgs false

/-- Where the gone image of an image is, counted from i; -1: nowhere. -/
def fx : List S43 → Int → Nat → Int
  | [], _, _ => -1
  | x :: t, a, i => if x.f0 = a then (i : Int) else fx t a (i + 1)
def epoch_find.f (a0_0 : Int) (a0_1 : Int) (a0_2 : Int) (a0_3 : Int) (a0_4 : Int) (l0_5 : List S43) (a1 : Int) : Option Int := some (fx l0_5 a1 0)
theorem fx_cons (x : S43) (t : List S43) (a : Int) (i : Nat) : fx (x :: t) a i = if x.f0 = a then (i : Int) else fx t a (i + 1) := rfl
theorem rd_T43_nat (l : List S43) (i : Nat) (h : i < l.length) : rd_T43 l (i : Int) = l[i] := by
  simp [rd_T43, List.getD, h]
set_option maxHeartbeats 1000000 in
set_option maxRecDepth 100000 in
/-- The closure of find: is it this image's gone image? -/
theorem find1 (x0 x1 a : Int) (g : Nat) (w : World) (hc : w.cell? ⟨g, 0, none⟩ = some (.int .i64 a)) :
    Calls Try.prog 32 #[.agg #[.int .i64 x0, .int .i64 x1], .pointer (some ⟨g, 0, none⟩)] w fun e w' => e = .returned (.bool (x0 == a)) ∧ Below w.heap.size w w' := by
  have hu43 := Try.underlying43
  have hg := World.block_lt_of_cell? w _ hc
  go_enter Try.func32, Try.ntmps32
  go_wp2
  go_ret
  exact ⟨rfl, below_alloc (Below.refl _ _) _⟩
set_option maxHeartbeats 2000000 in
set_option maxRecDepth 100000 in
/-- slices.IndexFunc with that closure. -/
theorem find_idx (A0 : Option Addr) (c0 : Nat) (l0 : List S43) (a : Int) (g : Nat) (w : World) (hr0 : Kd.C k43 w A0 l0.length l0) (hc : w.cell? ⟨g, 0, none⟩ = some (.int .i64 a)) :
    Calls Try.prog 31 #[.slice A0 l0.length c0, .func (.func 32) #[] #[.pointer (some ⟨g, 0, none⟩)]] w fun e w' => e = .returned (.int .i64 (fx l0 a 0)) ∧ Below w.heap.size w w' := by
  have HR0 := Aside0.mk hr0
  have HC0 := Aside0.mk hc
  clear hr0 hc
  have hlen : l0.length ≤ 9223372036854775807 := HR0.out.2.1
  have HB := Aside0.mk (Below.refl w.heap.size w)
  go_enter Try.func31, Try.ntmps31
  go_wp2
  go_loopg [8] l0.length (fun kq v8 w' => ∃ i : Nat, v8 = .int .i64 (i : Int) ∧ i ≤ l0.length ∧ Aside0 (kq + i = l0.length ∧ fx l0 a 0 = fx (l0.drop i) a i) ∧ Aside0 (Below w.heap.size w w'))
  case atStart => exact ⟨0, rfl, Nat.zero_le _, ⟨rfl, rfl⟩, HB⟩
  case round =>
    clear HB
    obtain ⟨i, rfl, hi, HF, HB⟩ := hrel
    by_cases hlt : i < l0.length
    · obtain ⟨ad, e1, hx0, hx1⟩ := at_T43 (Kd.C_below HR0.out HB.out) (i : Int) (by omega) (by omega)
      cases e1
      rw [rd_T43_nat l0 i hlt, Int.toNat_natCast] at hx0 hx1
      have hcc := pw_cell_below HB.out HC0.out
      have hdr := Lib.hid (List.drop_eq_getElem_cons hlt)
      by_cases hxa : l0[i].f0 = a
      · have hb0 : (l0[i].f0 == a) = true := beq_iff_eq.2 hxa
        have HX := Lib.hid hxa
        clear hxa
        go_wp2_with (go_at_call 32; (with_reducible refine (find1 _ _ a g _ hcc).mono ?_); rintro e w2 ⟨rfl, hb2⟩)
        go_ret
        refine ⟨?_, below_step HB.out hb2⟩
        rw [HF.out.2, hdr.out, fx_cons, if_pos HX.out]
        rfl
      · have hb0 : (l0[i].f0 == a) = false := beq_eq_false_iff_ne.2 hxa
        have HX := Lib.hid hxa
        clear hxa
        cases gk with
        | zero => exact absurd HF.out.1 (by omega)
        | succ k1 =>
          go_wp2_with (go_at_call 32; (with_reducible refine (find1 _ _ a g _ hcc).mono ?_); rintro e w2 ⟨rfl, hb2⟩)
          go_roundg k1
          case measure => omega
          case rel =>
            refine ⟨i + 1, by go_num, by omega, ⟨by have := HF.out.1; omega, ?_⟩, ⟨below_step HB.out hb2⟩⟩
            rw [HF.out.2, hdr.out, fx_cons, if_neg HX.out]
    · have he : l0.drop i = [] := List.drop_eq_nil_of_le (by omega)
      have HE := Lib.hid he
      clear he
      go_wp2
      go_ret
      refine ⟨?_, HB.out⟩
      rw [HF.out.2, HE.out]
      rfl
set_option maxHeartbeats 1000000 in
set_option maxRecDepth 100000 in
theorem epoch_find.calls (a0_0 : Int) (a0_1 : Int) (a0_2 : Int) (a0_3 : Int) (a0_4 : Int) (A0_5 : Option Addr) (c0_5 : Nat) (l0_5 : List S43) (a1 : Int) (r : Int) (w : World) (hr0_5 : Kd.C k43 w A0_5 l0_5.length l0_5) (hc0_5 : l0_5.length ≤ c0_5) (h : epoch_find.f a0_0 a0_1 a0_2 a0_3 a0_4 l0_5 a1 = some r) :
    Calls Try.prog 26 #[.agg #[.int .i64 a0_0, .int .i64 a0_1, .int .i64 a0_2, .int .i64 a0_3, .int .i64 a0_4, .slice A0_5 l0_5.length c0_5], .int .i64 a1] w fun e w' => e = .returned (.int .i64 r) ∧ Below w.heap.size w w' := by
  obtain rfl := Option.some.inj h
  clear h
  have HR0 := Aside0.mk hr0_5
  have HC0 := Aside0.mk hc0_5
  clear hr0_5 hc0_5
  have hu25 := Try.underlying25
  go_enter Try.func26, Try.ntmps26
  go_wp2_with fail
  have hb : Below w.heap.size w ((w.alloc (.cells #[.int .i64 a0_0, .int .i64 a0_1, .int .i64 a0_2, .int .i64 a0_3, .int .i64 a0_4, .slice A0_5 l0_5.length c0_5] 25)).alloc (.cells #[.int .i64 a1] 3)) := below_alloc (below_alloc (Below.refl _ _) _) _
  refine (find_idx A0_5 c0_5 l0_5 a1 _ _ (Kd.C_below HR0.out hb) (by simp)).mono ?_
  rintro e w2 ⟨rfl, hb2⟩
  go_wp2
  go_ret
  exact ⟨rfl, below_step hb hb2⟩

end Go.Proofs.Ytipnfcicpnmggaa.P
