-- Written by a program of this session over the kit's print of the translation. Lean checks it.
import Derived.Test.YtlboachgeepadaaPx0
-- shorter
namespace Go.Proofs.Ytlboachgeepadaa.P
open Go.RowKit Go.Proofs.YtlboachgeepadaaW.PrintWords Go.Proofs.YtlboachgeepadaaW.PrintLast Go.Proofs.YtlboachgeepadaaW.PrintMore
attribute [local go_sem] max2_int min2_int max_two min_two max_three min_three max_four min_four   -- for this text's walks alone
set_option linter.unusedVariables false
set_option linter.unusedSimpArgs false

/-! ### drydockref03_Own: function 26 -/
def drydockref03_Own.l0 : Nat → Int → List (S61) → List (S61) → Option ((List (S61)))
  | 0, _, _, _ => none
  | k + 1, x4, x210000, x212000 => if x4 < (x210000.length : Int) then (if 0 ≤ x4 then (if ([] : List (S72)).length + ((rd_T61 x210000 x4).f1).length < 2513169434916 then (if x212000.length < 4398046511104 then (drydockref03_Own.l0 k (wrap64 (x4 + 1)) x210000 (x212000 ++ [(⟨(rd_T61 x210000 x4).f0, (([] : List (S72)) ++ ((rd_T61 x210000 x4).f1))⟩ : S61)])) else (none)) else (none)) else (none)) else (some x212000)
def drydockref03_Own.f (k : Nat) (l0_0 : List (S61)) : Option ((List (S61))) := drydockref03_Own.l0 k 0 l0_0 ([] : List (S61))
theorem drydockref03_Own.mono_l : ∀ k, (∀ y0 y1 y2, LeO (drydockref03_Own.l0 k y0 y1 y2) (drydockref03_Own.l0 (k + 1) y0 y1 y2))
  | 0 => fun _ _ _ r h => by simp [drydockref03_Own.l0] at h
  | k + 1 => by
    have ih0 := drydockref03_Own.mono_l k
    · intro y0 y1 y2
      unfold drydockref03_Own.l0
      repeat' first
      | (with_reducible exact ih0 _ _ _)
      | (with_reducible exact LeO.refl _)
      | (with_reducible exact LeO.none _)
      | (with_reducible refine LeO.ite ?_ ?_)
      | (with_reducible refine LeO.bind ?_ (fun _ => ?_))
      | exact ih0 _ _ _
      | exact LeO.none _
      | refine LeO.ite ?_ ?_
      | refine LeO.bind ?_ (fun _ => ?_)
theorem drydockref03_Own.mono : ∀ a0 k, LeO (drydockref03_Own.f k a0) (drydockref03_Own.f (k + 1) a0) := by
 intro a0 k
 have ih0 := drydockref03_Own.mono_l k
 unfold drydockref03_Own.f
 repeat' first
  | (with_reducible exact ih0 _ _ _)
  | (with_reducible exact LeO.refl _)
  | (with_reducible exact LeO.none _)
  | (with_reducible refine LeO.ite ?_ ?_)
  | (with_reducible refine LeO.bind ?_ (fun _ => ?_))
  | exact ih0 _ _ _
  | exact LeO.none _
  | refine LeO.ite ?_ ?_
  | refine LeO.bind ?_ (fun _ => ?_)
def drydockref03_Own.T5 : Bool × List (List Nat × List Nat) := (true, [([], []), ([0], [0]), ([], []), ([2], [2]), ([], []), ([3, 4], [3, 4]), ([5], [5]), ([6], [6]), ([], []), ([8], [8]), ([], []), ([9, 10], [9, 10]), ([11], [11]), ([12], [12]), ([13], [13]), ([7, 14], [7, 14]), ([15], [15]), ([1, 16, 14], [1, 16]), ([0, 1, 2, 3, 4, 5, 6, 7, 8, 9, 10, 11, 12, 13, 14, 15, 16, 17], []), ([18, 17, 17, 0, 1, 2, 3, 4, 5, 6, 7, 8, 9, 10, 11, 12, 13, 14, 15, 16, 17], [17, 18])])
def drydockref03_Own.B5 : List Nat := [0, 1, 0, 4, 0, 28, 60, 124, 0, 256, 0, 1792, 3840, 7936, 16128, 32764, 65532, 131071, 262143, 524287]
theorem drydockref03_Own.tab5 : rtab .any (opsOf Try.f26 5) = drydockref03_Own.T5 := by kernel_rfl
theorem drydockref03_Own.bits5 : waitsOk drydockref03_Own.T5.2 drydockref03_Own.B5 = true := by kernel_rfl
set_option maxHeartbeats 8000000 in
set_option maxRecDepth 100000 in
theorem drydockref03_Own.calls (k : Nat) (A0_0 : Option Addr) (c0_0 : Nat) (l0_0 : List (S61)) (r : List (S61)) (w : World) (hr0_0 : Kd.C k61 w A0_0 l0_0.length l0_0) (hc0_0 : l0_0.length ≤ c0_0) (h : drydockref03_Own.f k l0_0 = some r) :
    Calls Try.prog 26 #[.agg #[.slice A0_0 l0_0.length c0_0]] w fun e w' => ∃ v0_ : Value, e = .returned (.agg #[v0_]) ∧ Kd.S k61 61 w' w.heap.size (fun _ => True) v0_ r ∧ Below w.heap.size w w' := by
 have hu37 := Try.underlying37
 have hu61 := Try.underlying61
 have HR0_0 := Aside0.mk hr0_0
 have HC0_0 := Aside0.mk hc0_0
 clear hr0_0 hc0_0
 have HB := Aside0.mk (Below.refl w.heap.size w)
 have H : (drydockref03_Own.l0 k 0 l0_0 ([] : List (S61))) = some r := h
 clear h
 have H' := Aside0.mk H
 clear H
 go_enter Try.func26, Try.ntmps26
 go_wp2_with (first | ((with_reducible refine gate_dst (N := 1) rfl ?_); refine box_event ?hg (N := 1) ?hd (cs := #[.slice A0_0 l0_0.length c0_0]) (t := 37) ?hr ?_; (case hd => rfl); (case hg => rfl); (case hr => first | (go_simp; done) | (go_simp; rfl)); intro gb209 hg w2 hbox hb; have n0_ := Aside0.mk (below_step bs_ hb); have n1_ := Aside0.mk (hbox); have n2_ := Aside0.mk ((by rw [hg]; exact (below_size bs_) : w.heap.size ≤ gb209)); have n3_ := Aside0.mk ((by rw [hg]; exact (below_size bs_) : w.heap.size ≤ gb209)); clear HB; have HB := n0_; have BK209 := n1_; have GW209 := n2_; have GE209 := n3_; clear n0_ n1_ n2_ n3_; clear hb hbox hg) | ((with_reducible refine gate_dst (N := 2) rfl ?_); refine box_event ?hg (N := 2) ?hd (cs := #[.slice none 0 0]) (t := 37) ?hr ?_; (case hd => rfl); (case hg => rfl); (case hr => first | (go_simp; done) | (go_simp; rfl)); intro gb210 hg w3 hbox hb; have n0_ := Aside0.mk (blk_below (bk_ BK209) hb); have n1_ := Aside0.mk (below_step bs_ hb); have n2_ := Aside0.mk (hbox); have n3_ := Aside0.mk ((by rw [hg]; exact (below_size bs_) : w.heap.size ≤ gb210)); have n4_ := Aside0.mk ((by rw [hg]; exact (below_size bs_) : w.heap.size ≤ gb210)); have n5_ := Aside0.mk ((by rw [hg]; exact Nat.ne_of_lt (blk_lt (bk_ BK209)) : gb209 ≠ gb210)); have n6_ := Aside0.mk ((by rw [hg]; exact Nat.ne_of_gt (blk_lt (bk_ BK209)) : gb210 ≠ gb209)); clear BK209 HB; have BK209 := n0_; have HB := n1_; have BK210 := n2_; have GW210 := n3_; have GE210 := n4_; have NB209_210 := n5_; have NB210_209 := n6_; clear n0_ n1_ n2_ n3_ n4_ n5_ n6_; clear hb hbox hg) | ((with_reducible refine gate_dst (N := 3) rfl ?_); refine box_event ?hg (N := 3) ?hd (cs := #[.slice none 0 0]) (t := 37) ?hr ?_; (case hd => rfl); (case hg => rfl); (case hr => first | (go_simp; done) | (go_simp; rfl)); intro gb211 hg w4 hbox hb; have n0_ := Aside0.mk (blk_below (bk_ BK209) hb); have n1_ := Aside0.mk (blk_below (bk_ BK210) hb); have n2_ := Aside0.mk (below_step bs_ hb); have n3_ := Aside0.mk (hbox); have n4_ := Aside0.mk ((by rw [hg]; exact (below_size bs_) : w.heap.size ≤ gb211)); have n5_ := Aside0.mk ((by rw [hg]; exact (below_size bs_) : w.heap.size ≤ gb211)); have n6_ := Aside0.mk ((by rw [hg]; exact Nat.ne_of_lt (blk_lt (bk_ BK209)) : gb209 ≠ gb211)); have n7_ := Aside0.mk ((by rw [hg]; exact Nat.ne_of_gt (blk_lt (bk_ BK209)) : gb211 ≠ gb209)); have n8_ := Aside0.mk ((by rw [hg]; exact Nat.ne_of_lt (blk_lt (bk_ BK210)) : gb210 ≠ gb211)); have n9_ := Aside0.mk ((by rw [hg]; exact Nat.ne_of_gt (blk_lt (bk_ BK210)) : gb211 ≠ gb210)); clear BK209 BK210 HB; have BK209 := n0_; have BK210 := n1_; have HB := n2_; have BK211 := n3_; have GW211 := n4_; have GE211 := n5_; have NB209_211 := n6_; have NB211_209 := n7_; have NB210_211 := n8_; have NB211_210 := n9_; clear n0_ n1_ n2_ n3_ n4_ n5_ n6_ n7_ n8_ n9_; clear hb hbox hg))
 go_loopg [4] k (fun kq v4 w' => ∃ (x4_1 : Int) (x212000_1 : List (S61)) (u212000 : Value), v4 = .int .i64 x4_1 ∧ Aside0 (drydockref03_Own.l0 kq x4_1 l0_0 x212000_1 = some r) ∧ Aside0 (kq ≤ k) ∧ Aside0 (Kd.S k61 61 w' w.heap.size (fun _ => True) u212000 x212000_1) ∧ Aside0 (w'.heap[gb209]? = some (.cells #[(.slice A0_0 l0_0.length c0_0)] 37 (0, 0))) ∧ Aside0 (w'.heap[gb210]? = some (.cells #[(.slice none 0 0)] 37 (0, 0))) ∧ Aside0 (w'.heap[gb211]? = some (.cells #[u212000] 37 (0, 0))) ∧ Aside0 (Below w.heap.size w w'))
 case atStart => exact ⟨(0), (([] : List (S61))), (.slice none 0 0), eq_, H', ⟨Nat.le_refl _⟩, ⟨by first | exact Kd.S_nil _ _ _ _ _ | exact Kd.N_nil _ _ _ _ _ | exact Kd.V_nil _ _ _ _ _ | exact Kd.Q_nil _ _ _ _ _ | exact Kd.R_nil _ _ _ _ _⟩, ⟨bk_ BK209⟩, ⟨bk_ BK210⟩, ⟨bk_ BK211⟩, ⟨bs_⟩⟩
 case round =>
  clear H'
  obtain ⟨x4_1, x212000_1, u212000, rfl, HA, HK1, HO_212000, BK209, BK210, BK211, HB⟩ := hrel
  cases gk with
  | zero => exact absurd HA.out (by simp [drydockref03_Own.l0])
  | succ k1 =>
   have H := HA.out
   clear HA
   simp only [drydockref03_Own.l0] at H
   by_cases c5 : x4_1 < (l0_0.length : Int)
   ·rw [if_pos c5] at H
    have c5b0 : decide (x4_1 < (l0_0.length : Int)) = true := decide_eq_true c5
    clear c5
    by_cases c6 : 0 ≤ x4_1
    ·rw [if_pos c6] at H
     have c6b0 : decide (0 ≤ x4_1) = true := decide_eq_true c6
     clear c6
     by_cases c7 : ([] : List (S72)).length + ((rd_T61 l0_0 x4_1).f1).length < 2513169434916
     ·rw [if_pos c7] at H
      have LMc7 := Aside0.mk c7
      clear c7
      obtain ⟨y214, hy214⟩ : ∃ y_ : List (S72), y_ = (([] : List (S72)) ++ ((rd_T61 l0_0 x4_1).f1)) := ⟨_, rfl⟩
      replace H : (if x212000_1.length < 4398046511104 then (drydockref03_Own.l0 k1 (wrap64 (x4_1 + 1)) l0_0 (x212000_1 ++ [(⟨(rd_T61 l0_0 x4_1).f0, y214⟩ : S61)])) else (none)) = some r := by first | (rw [hy214]; with_reducible exact H) | (have H2_ := (Option.bind_some _ _).symm.trans H; rw [hy214]; with_reducible exact H2_) | (have H2_ := (Option.bind_some _ _).symm.trans H; with_reducible exact H2_) | with_reducible exact H | (rw [hy214]; exact H) | exact H
      have Ny214 := Aside0.mk hy214
      clear hy214
      by_cases c8 : x212000_1.length < 4398046511104
      ·rw [if_pos c8] at H
       have LMc8 := Aside0.mk c8
       clear c8
       obtain ⟨y217, hy217⟩ : ∃ y_ : List (S61), y_ = (x212000_1 ++ [(⟨(rd_T61 l0_0 x4_1).f0, y214⟩ : S61)]) := ⟨_, rfl⟩
       replace H : (drydockref03_Own.l0 k1 (wrap64 (x4_1 + 1)) l0_0 y217) = some r := by first | (rw [hy217]; with_reducible exact H) | (have H2_ := (Option.bind_some _ _).symm.trans H; rw [hy217]; with_reducible exact H2_) | (have H2_ := (Option.bind_some _ _).symm.trans H; with_reducible exact H2_) | with_reducible exact H | (rw [hy217]; exact H) | exact H
       have Ny217 := Aside0.mk hy217
       clear hy217
       have H' := Aside0.mk H
       clear H
       have hnb9 := NB209_210.out
       have hnc9 := NB210_209.out
       have hnb10 := NB209_211.out
       have hnc10 := NB211_209.out
       have hcz11_0 : wr.cell? ⟨gb209, 0, none⟩ = some (.slice A0_0 l0_0.length c0_0) := (blk_cell BK209.out 0).trans rfl
       have hfz11_0 := blk_frozen BK209.out 0
       try go_wp2
       have n0_ := Aside0.mk (Kd.S_drew HO_212000.out)
       have n1_ := Aside0.mk (blk_drew BK209.out)
       have n2_ := Aside0.mk (blk_drew BK210.out)
       have n3_ := Aside0.mk (blk_drew BK211.out)
       have n4_ := Aside0.mk (below_drew1 HB.out)
       clear HO_212000
       clear BK209
       clear BK210
       clear BK211
       clear HB
       have HO_212000 := n0_
       have BK209 := n1_
       have BK210 := n2_
       have BK211 := n3_
       have HB := n4_
       clear n0_ n1_ n2_ n3_ n4_
       have p212 : 0 ≤ (x4_1 : Int) := of_decide_eq_true (by first | (with_reducible assumption) | assumption)
       have q212 : x4_1 < (l0_0.length : Int) := of_decide_eq_true (by first | (with_reducible assumption) | assumption)
       obtain ⟨ad212, A212_1, c212_1, e212, hx212_0, hx212_1, hl212_1, hi212_1⟩ := at_T61 HR0_0.out x4_1 p212 q212
       have hw212_1 := hx212_1
       have hw212_0 := hx212_0
       cases e212
       replace hx212_0 := (HB.out.cell (World.block_lt_of_cell? w _ hx212_0)).trans hx212_0
       replace hx212_1 := (HB.out.cell (World.block_lt_of_cell? w _ hx212_1)).trans hx212_1
       have HR212_1 := Aside0.mk hi212_1
       have HC212_1 := Aside0.mk hl212_1
       clear hi212_1 hl212_1
       replace p212 := eq_true p212
       replace q212 := eq_true q212
       have p213 : 0 ≤ (x4_1 : Int) := of_decide_eq_true (by first | (with_reducible assumption) | assumption)
       have q213 : x4_1 < (l0_0.length : Int) := of_decide_eq_true (by first | (with_reducible assumption) | assumption)
       obtain ⟨ad213, A213_1, c213_1, e213, hx213_0, hx213_1, hl213_1, hi213_1⟩ := at_T61 HR0_0.out x4_1 p213 q213
       have hw213_1 := hx213_1
       have hw213_0 := hx213_0
       obtain rfl : ad212 = ad213 := (by injection e213)
       replace hx213_0 := (HB.out.cell (World.block_lt_of_cell? w _ hx213_0)).trans hx213_0
       replace hx213_1 := (HB.out.cell (World.block_lt_of_cell? w _ hx213_1)).trans hx213_1
       have HR213_1 := Aside0.mk hi213_1
       have HC213_1 := Aside0.mk hl213_1
       clear hi213_1 hl213_1
       replace p213 := eq_true p213
       replace q213 := eq_true q213
       have ea_ := Option.some.inj (hx212_1.symm.trans hx213_1)
       injection ea_ with ea_ en_ ec_
       subst ea_
       subst ec_
       clear en_
       refine start_ (n := 20) (S := fun w' => w'.cell? ⟨gb211, 0, none⟩ = some (u212000) ∧ w'.cell? ⟨gb209, 0, none⟩ = some (.slice (some ad212) l0_0.length c0_0) ∧ w'.cell? (ad212.add ((x4_1).toNat * 2)) = some (.int .i64 ((rd_T61 l0_0 x4_1).f0)) ∧ w'.cell? ⟨(ad212.add ((x4_1).toNat * 2)).block, (ad212.add ((x4_1).toNat * 2)).off + 1, none⟩ = some (.slice A212_1 ((rd_T61 l0_0 x4_1).f1).length c212_1) ∧ w'.cell? (ad212.add ((x4_1).toNat * 2)) = some (.int .i64 ((rd_T61 l0_0 x4_1).f0)) ∧ w'.cell? ⟨(ad212.add ((x4_1).toNat * 2)).block, (ad212.add ((x4_1).toNat * 2)).off + 1, none⟩ = some (.slice A212_1 ((rd_T61 l0_0 x4_1).f1).length c212_1)) (ds := [19]) #[false, false, false, false, false, false, false, false, false, false, false, false, false, false, false, false, false, false, false, false] (by kernel_rfl) rfl rfl ⟨(blk_cell BK211.out 0).trans rfl, (blk_cell BK209.out 0).trans rfl, ((HB.out.cell (World.block_lt_of_cell? w _ hw212_0)).trans hw212_0), ((HB.out.cell (World.block_lt_of_cell? w _ hw212_1)).trans hw212_1), ((HB.out.cell (World.block_lt_of_cell? w _ hw213_0)).trans hw213_0), ((HB.out.cell (World.block_lt_of_cell? w _ hw213_1)).trans hw213_1)⟩ (fun hHeld => ?_); refine with_tabW drydockref03_Own.tab5 drydockref03_Own.bits5 (fun HT_ HW_ => ?_)
       generalize wr.drew = w12 at HO_212000 BK209 BK210 BK211 HB HR212_1 HR213_1 hx212_0 hx212_1 hx213_0 hx213_1 hHeld ⊢
       refine pv_ 0 (some 12) HT_ (h := ?_)
       refine pv_ 2 (some 14) HT_ (h := ?_)
       refine pv_ 4 (some 16) HT_ (h := ?_)
       refine pv_ 8 (some 20) HT_ (h := ?_)
       refine pv_ 10 (some 22) HT_ (h := ?_)
       refine tk_ 1 (some 13) HT_ HW_ hHeld (h := ?_)
       refine tk_ 3 (some 15) HT_ HW_ hHeld (h := ?_)
       refine pv_ 5 (some 17) HT_ (h := ?_)
       refine pv_ 6 (some 18) HT_ (h := ?_)
       refine tk_ 7 (some 19) HT_ HW_ hHeld (h := ?_)
       refine tk_ 9 (some 21) HT_ HW_ hHeld (h := ?_)
       refine pv_ 11 (some 23) HT_ (h := ?_)
       refine pv_ 12 (some 24) HT_ (h := ?_)
       refine tk_ 13 (some 25) HT_ HW_ hHeld (h := ?_)
       refine one_ (i := 14) (N := some 26) #[true, true, true, true, true, true, true, true, true, true, true, true, true, true, true, false, false, false, false, false] rfl rfl (one_of HT_.out (by kernel_rfl)) (by decide) (fun K hK => ?_)
       refine Kd.R_append_rows_step k72 (w0 := w) w.heap.size rfl (.const (.slice none 0 0)) (.tmp 25) 59 72 (.agg #[(.int .i64 0), (.int .i64 0), (.int .i64 0), (.int .i64 0), (.bool false), (.int .i64 0), (.int .u32 0)]) 56 rfl Try.underlying59 info72 rfl (by decide) (by omega) (.slice none 0 0) ([] : List (S72)) ((rd_T61 l0_0 x4_1).f1) _ _ _ (fun _ => True) (fun _ => False) rfl rfl ?aO ?aR (fun _ _ h => h) (fun _ h => h.elim) ?aF ?aB ?aS ?aL ?_
       (case aR => repeat (first | exact (Kd.C_below HR213_1.out HB.out) | (with_reducible refine Kd.C_alloc ?_ _) | (with_reducible refine Kd.C_drewN ?_ _) | (with_reducible refine Kd.C_drew ?_)))
       (case aB => exact bs_)
       (case aF => exact (fun _ _ => trivial))
       (case aO => exact ((Kd.R_nil _ _ _ _ (fun _ => True))))
       (case aS => exact (below_size bs_))
       (case aL => have := LMc7.out; omega)
       intro v215 w13 ho hb hg hat
       rw [← Ny214.out] at ho
       have n0_ := Aside0.mk (Kd.S_after (Kd.S_apart_nil (by (with_reducible repeat (first | apply Kd.S_alloc | apply Kd.S_drewN | apply Kd.S_drew)); exact HO_212000.out)) hg hat)
       have n1_ := Aside0.mk (blk_grown (g := gb209) (o := .cells #[.slice (some ad212) l0_0.length c0_0] 37 (0, 0)) (by (with_reducible repeat (first | refine blk_drewN ?_ _ | refine blk_drew ?_ | refine blk_alloc ?_ _)); exact BK209.out) hg (by simp [Value.ownBlock]))
       have n2_ := Aside0.mk (blk_grown (g := gb210) (o := .cells #[.slice none 0 0] 37 (0, 0)) (by (with_reducible repeat (first | refine blk_drewN ?_ _ | refine blk_drew ?_ | refine blk_alloc ?_ _)); exact BK210.out) hg (by simp [Value.ownBlock]))
       have n3_ := Aside0.mk (blk_grown (g := gb211) (o := .cells #[u212000] 37 (0, 0)) (by (with_reducible repeat (first | refine blk_drewN ?_ _ | refine blk_drew ?_ | refine blk_alloc ?_ _)); exact BK211.out) hg (by simp [Value.ownBlock]))
       have n4_ := Aside0.mk (hb)
       have n5_ := Aside0.mk (ho)
       clear HO_212000
       clear BK209
       clear BK210
       clear BK211
       clear HB
       have HO_212000 := n0_
       have BK209 := n1_
       have BK210 := n2_
       have BK211 := n3_
       have HB := n4_
       have HO216 := n5_
       clear n0_ n1_ n2_ n3_ n4_ n5_
       clear ho hb hg hat
       obtain ⟨Ao14, co14, eo14⟩ := Kd.R_slice HO216.out
       (first | subst eo14 | (injection eo14 with f1_ f2_ f3_; have f4_ := f1_.symm; have f5_ := f3_.symm; clear f1_ f2_ f3_; subst f4_; subst f5_))
       refine hK.out _ _ ⟨(blk_cell BK211.out 0).trans rfl, (blk_cell BK209.out 0).trans rfl, ((HB.out.cell (World.block_lt_of_cell? w _ hw212_0)).trans hw212_0), ((HB.out.cell (World.block_lt_of_cell? w _ hw212_1)).trans hw212_1), ((HB.out.cell (World.block_lt_of_cell? w _ hw213_0)).trans hw213_0), ((HB.out.cell (World.block_lt_of_cell? w _ hw213_1)).trans hw213_1)⟩ (fun hHeld => ?_)
       clear hK K
       refine norm_ (a' := ?_) ?_ ?_
       rotate_left
       ·show Act.put _ (some 26) _ = _
        simp only [Act.put, List.setIfInBounds_toArray, List.set_cons_zero, List.set_cons_succ, i64_w, i32_w]
        rfl
       refine pv_ 15 (some 27) HT_ (h := ?_)
       refine one_ (i := 16) (N := some 28) #[true, true, true, true, true, true, true, true, true, true, true, true, true, true, true, true, true, false, false, false] rfl rfl (one_of HT_.out (by kernel_rfl)) (by decide) (fun K hK => ?_)
       refine value_ (w1 := ?_) (v := ?_) (by rfl) rfl ?_ ?_
       rotate_left 2
       ·go_simp
        constructor
        ·rfl
        ·rfl
       refine hK.out _ _ ⟨(blk_cell (blk_alloc BK211.out _) 0).trans rfl, (blk_cell (blk_alloc BK209.out _) 0).trans rfl, (World.cell?_alloc_lt _ _ _ (World.block_lt_of_cell? _ _ (((HB.out.cell (World.block_lt_of_cell? w _ hw212_0)).trans hw212_0)))).trans (((HB.out.cell (World.block_lt_of_cell? w _ hw212_0)).trans hw212_0)), (World.cell?_alloc_lt _ _ _ (World.block_lt_of_cell? _ _ (((HB.out.cell (World.block_lt_of_cell? w _ hw212_1)).trans hw212_1)))).trans (((HB.out.cell (World.block_lt_of_cell? w _ hw212_1)).trans hw212_1)), (World.cell?_alloc_lt _ _ _ (World.block_lt_of_cell? _ _ (((HB.out.cell (World.block_lt_of_cell? w _ hw213_0)).trans hw213_0)))).trans (((HB.out.cell (World.block_lt_of_cell? w _ hw213_0)).trans hw213_0)), (World.cell?_alloc_lt _ _ _ (World.block_lt_of_cell? _ _ (((HB.out.cell (World.block_lt_of_cell? w _ hw213_1)).trans hw213_1)))).trans (((HB.out.cell (World.block_lt_of_cell? w _ hw213_1)).trans hw213_1))⟩ (fun hHeld => ?_)
       clear hK K
       refine norm_ (a' := ?_) ?_ ?_
       rotate_left
       ·show Act.put _ (some 28) _ = _
        simp only [Act.put, List.setIfInBounds_toArray, List.set_cons_zero, List.set_cons_succ, i64_w, i32_w]
        rfl
       refine one_ (i := 17) (N := some 29) #[true, true, true, true, true, true, true, true, true, true, true, true, true, true, true, true, true, true, false, false] rfl rfl (one_of HT_.out (by kernel_rfl)) (by decide) (fun K hK => ?_)
       refine Kd.S_append_step k61 (w0 := w) w.heap.size (by rfl) (.tmp 13) (.tmp 28) 35 61 (.agg #[(.int .i64 0), (.slice none 0 0)]) 32 rfl Try.underlying35 info61 rfl (by decide) (by omega) u212000 x212000_1 (⟨(rd_T61 l0_0 x4_1).f0, y214⟩ : S61) [.int .i64 ((rd_T61 l0_0 x4_1).f0), .slice Ao14 y214.length co14] (fun _ => True) (fun k_ => some k_ = (.slice Ao14 y214.length co14 : Value).ownBlock) rfl rfl ?aP (fun k_ hk_ => ((Kd.R_mono (ok' := fun k_ => ((fun _ => True)) k_ ∧ some k_ ≠ (u212000 : Value).ownBlock) (Kd.R_apart' (HO216.out) (Kd.S_typed HO_212000.out) (by decide)) (fun k_ hk => ⟨trivial, hk.2⟩))).1 k_ hk_.symm) ?aF ?aO ?aB ?aS ?aL ?_
       (case aP => exact k61_mkM _ _ _ (⟨(rd_T61 l0_0 x4_1).f0, y214⟩ : S61) (Kd.R_mono (Kd.R_tight rfl (Kd.R_mono (ok' := fun k_ => ((fun _ => True)) k_ ∧ some k_ ≠ (u212000 : Value).ownBlock) (Kd.R_apart' (HO216.out) (Kd.S_typed HO_212000.out) (by decide)) (fun k_ hk => ⟨trivial, hk.2⟩))) (fun _ h_ => h_)))
       (case aB => exact bs_)
       (case aF => exact (fun _ _ => trivial))
       (case aO => exact (by (with_reducible repeat (first | apply Kd.S_alloc | apply Kd.S_drewN | apply Kd.S_drew)); exact Kd.S_mono HO_212000.out (fun k_ hk => ⟨trivial, fun e_ => hk.2 e_⟩)))
       (case aS => exact (below_size bs_))
       (case aL => have := LMc8.out; omega)
       intro v218 w15 ho hb hg hat
       rw [← Ny217.out] at ho
       have n0_ := Aside0.mk (blk_grown (g := gb209) (o := .cells #[.slice (some ad212) l0_0.length c0_0] 37 (0, 0)) (by (with_reducible repeat (first | refine blk_drewN ?_ _ | refine blk_drew ?_ | refine blk_alloc ?_ _)); exact BK209.out) hg (Kd.S_ne HO_212000.out BK209.out (by decide)))
       have n1_ := Aside0.mk (blk_grown (g := gb210) (o := .cells #[.slice none 0 0] 37 (0, 0)) (by (with_reducible repeat (first | refine blk_drewN ?_ _ | refine blk_drew ?_ | refine blk_alloc ?_ _)); exact BK210.out) hg (Kd.S_ne HO_212000.out BK210.out (by decide)))
       have n2_ := Aside0.mk (blk_grown (g := gb211) (o := .cells #[u212000] 37 (0, 0)) (by (with_reducible repeat (first | refine blk_drewN ?_ _ | refine blk_drew ?_ | refine blk_alloc ?_ _)); exact BK211.out) hg (Kd.S_ne HO_212000.out BK211.out (by decide)))
       have n3_ := Aside0.mk (hb)
       have n4_ := Aside0.mk (ho)
       clear BK209
       clear BK210
       clear BK211
       clear HB
       clear HO_212000
       clear HO216
       have BK209 := n0_
       have BK210 := n1_
       have BK211 := n2_
       have HB := n3_
       have HO219 := n4_
       clear n0_ n1_ n2_ n3_ n4_
       clear ho hb hg hat
       obtain ⟨Ao16, co16, eo16⟩ := Kd.S_slice HO219.out
       (first | subst eo16 | (injection eo16 with f1_ f2_ f3_; have f4_ := f1_.symm; have f5_ := f3_.symm; clear f1_ f2_ f3_; subst f4_; subst f5_))
       refine hK.out _ _ ⟨(blk_cell BK211.out 0).trans rfl, (blk_cell BK209.out 0).trans rfl, ((HB.out.cell (World.block_lt_of_cell? w _ hw212_0)).trans hw212_0), ((HB.out.cell (World.block_lt_of_cell? w _ hw212_1)).trans hw212_1), ((HB.out.cell (World.block_lt_of_cell? w _ hw213_0)).trans hw213_0), ((HB.out.cell (World.block_lt_of_cell? w _ hw213_1)).trans hw213_1)⟩ (fun hHeld => ?_)
       clear hK K
       refine norm_ (a' := ?_) ?_ ?_
       rotate_left
       ·show Act.put _ (some 29) _ = _
        simp only [Act.put, List.setIfInBounds_toArray, List.set_cons_zero, List.set_cons_succ, i64_w, i32_w]
        rfl
       refine pv_ 18 (some 30) HT_ (h := ?_)
       refine last_ (i := 19) (N := none) #[true, true, true, true, true, true, true, true, true, true, true, true, true, true, true, true, true, true, true, true] rfl rfl (one_of HT_.out (by kernel_rfl)) (by decide) (fun K hK => ?_)
       have hs17 : w15.cell? ⟨gb211, 0, none⟩ = some (u212000) := (blk_cell BK211.out 0).trans rfl
       have hfs17 := blk_frozen BK211.out 0
       have hns17_0 := NB209_211.out
       have hns17_1 := NB210_211.out
       have hms17_0 := NB211_209.out
       have hms17_1 := NB211_210.out
       refine skip_ (w1 := ?_) (by rfl) rfl ?_ ?_
       rotate_left
       ·go_simp
        rfl
       refine hK.out _ _ ?_
       clear hK K
       refine done_ (done_of HT_.out (by kernel_rfl)) ?_
       try go_wp2
       go_roundg k1
       case measure => have := HK1.out; omega
       case rel => exact ⟨(wrap64 (x4_1 + 1)), (y217), (.slice Ao16 y217.length co16), eq_, H', ⟨by have := HK1.out; omega⟩, ⟨by (with_reducible repeat (first | apply Kd.S_alloc | apply Kd.S_drewN | apply Kd.S_drew)); exact Kd.S_mono (Kd.S_far (p := ⟨gb211, 0, none⟩) (Kd.S_types HO219.out BK211.out (by decide)) (fun _ hk => hk.2) (.slice Ao16 y217.length co16)) (fun _ hk => trivial)⟩, ⟨bf_ BK209⟩, ⟨bf_ BK210⟩, ⟨bp_ BK211⟩, ⟨bs_⟩⟩
      ·rw [if_neg c8] at H
       exact absurd H (by simp)
     ·rw [if_neg c7] at H
      exact absurd H (by simp)
    ·rw [if_neg c6] at H
     exact absurd H (by simp)
   ·rw [if_neg c5] at H
    have c5b0 : decide (x4_1 < (l0_0.length : Int)) = false := decide_eq_false c5
    clear c5
    obtain rfl := Option.some.inj H
    have hnb18 := NB209_210.out
    have hnc18 := NB210_209.out
    have hnb19 := NB209_211.out
    have hnc19 := NB211_209.out
    have hcz20_0 : wr.cell? ⟨gb209, 0, none⟩ = some (.slice A0_0 l0_0.length c0_0) := (blk_cell BK209.out 0).trans rfl
    have hfz20_0 := blk_frozen BK209.out 0
    have hnb21 := NB211_210.out
    have hnc21 := NB210_211.out
    have hcz22_0 : wr.cell? ⟨gb211, 0, none⟩ = some (u212000) := (blk_cell BK211.out 0).trans rfl
    have hfz22_0 := blk_frozen BK211.out 0
    obtain ⟨Ao23, co23, eo23⟩ := Kd.S_slice HO_212000.out
    subst eo23
    have hcz24_0 : wr.cell? ⟨gb210, 0, none⟩ = some (.slice none 0 0) := (blk_cell BK210.out 0).trans rfl
    have hfz24_0 := blk_frozen BK210.out 0
    go_wp2
    refine bodyPost_ret (results_cell_row rfl _ _ gb210 37 #[.slice Ao23 x212000_1.length co23] (0, 0) _ rfl (bp_ BK210) Try.underlying37 rfl (by kernel_rfl)) rfl ?_
    exact ⟨_, by first | rfl | (simp [errW_none, errW_some] <;> rfl) | (simp [*, errW_none, errW_some] <;> rfl), by (with_reducible repeat (first | apply Kd.S_alloc | apply Kd.S_drewN | apply Kd.S_drew)); exact Kd.S_mono (Kd.S_far (p := ⟨gb210, 0, none⟩) (Kd.S_types HO_212000.out BK210.out (by decide)) (fun _ hk => hk.2) (.slice Ao23 x212000_1.length co23)) (fun _ hk => trivial), by repeat (first | (with_reducible first | exact HB.out | apply below_alloc | apply pw_below_drewN | apply below_drew1 | refine below_set ?_ GE209.out | refine below_set ?_ GE210.out | refine below_set ?_ GE211.out) | exact HB.out)⟩

end Go.Proofs.Ytlboachgeepadaa.P
