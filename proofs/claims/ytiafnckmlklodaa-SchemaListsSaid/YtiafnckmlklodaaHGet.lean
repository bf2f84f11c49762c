/- What schema.Get answers, and that the code answers so. -/
import Derived.Test.YtiafnckmlklodaaHChunk
import Derived.Test.YtiafnckmlklodaaSpec
import Derived.RangeFuncBox
import Derived.Shelf.Abstract
namespace Go.Proofs.Ytiafnckmlklodaa.P
open Go.RowKit Go.Proofs.YtiafnckmlklodaaW.PrintWords Go.Proofs.YtiafnckmlklodaaW.PrintLast Go.Proofs.YtiafnckmlklodaaW.PrintMore
set_option linter.unusedVariables false
set_option linter.unusedSimpArgs false
open Go.Shelf
attribute [local go_sem] Oper.semAt_some

/-- The schemas of bytes, five at a time. -/
def chunkS (l0 : List Int) (k : Nat) : S34 := ⟨rd l0 ((1 + 5 * k : Nat) : Int), rd l0 ((2 + 5 * k : Nat) : Int), rd l0 ((3 + 5 * k : Nat) : Int), 256 * rd l0 ((4 + 5 * k : Nat) : Int) + rd l0 ((5 + 5 * k : Nat) : Int)⟩
def decS (l0 : List Int) (m : Nat) : List S34 := (List.finRange m).map fun k => chunkS l0 k.1
def cellsS (s : S34) : List Value := [.int .i64 s.f0, .int .i64 s.f1, .int .i64 s.f2, .int .i64 s.f3]
def ge6T : Bool × List (List Nat × List Nat) := (true, [([], []), ([], []), ([1], [1]), ([2], [2]), ([3], [3]), ([], []), ([5], [5]), ([6], [6]), ([7], [7]), ([], []), ([9], [9]), ([10], [10]), ([11], [11]), ([], []), ([13], [13]), ([14], [14]), ([15], [15]), ([16], [16]), ([], []), ([18], [18]), ([19], [19]), ([20], [20]), ([17, 21], [17, 21]), ([4, 8, 12, 22], [4, 8, 12, 22]), ([23], [23]), ([0, 24], [0, 24]), ([25, 25, 0, 1, 2, 3, 4, 5, 6, 7, 8, 9, 10, 11, 12, 13, 14, 15, 16, 17, 18, 19, 20, 21, 22, 23, 24, 25], [25])])
def ge6B : List Nat := [0, 0, 2, 6, 14, 0, 32, 96, 224, 0, 512, 1536, 3584, 0, 8192, 24576, 57344, 122880, 0, 262144, 786432, 1835008, 4186112, 8388606, 16777214, 33554431, 67108863]
theorem ge6tab : rtab .any (opsOf Try.f11 6) = ge6T := by kernel_rfl
theorem ge6bits : waitsOk ge6T.2 ge6B = true := by kernel_rfl
theorem wrap_b {y : Int} (h : 0 ≤ y ∧ y ≤ 255) : wrap64 y = y := by unfold wrap64; omega
theorem or_bytes {y3 y4 : Int} (h3 : 0 ≤ y3 ∧ y3 ≤ 255) (h4 : 0 ≤ y4 ∧ y4 ≤ 255) : bits .or .i64 (wrap64 (wrap64 y3 * 256)) (wrap64 y4) = 256 * y3 + y4 := by
  obtain ⟨a, rfl⟩ := Int.eq_ofNat_of_zero_le h3.1
  obtain ⟨b, rfl⟩ := Int.eq_ofNat_of_zero_le h4.1
  have e1 : wrap64 (wrap64 (a : Int) * 256) = ((2 ^ 8 * a : Nat) : Int) := by rw [wrap_b h3]; unfold wrap64; omega
  rw [e1, wrap_b h4]
  unfold bits
  have h1 : (BitVec.ofInt IntKind.i64.bits ((2 ^ 8 * a : Nat) : Int)).toNat = 2 ^ 8 * a := by
    rw [BitVec.toNat_ofInt]
    show (((2 ^ 8 * a : Nat) : Int) % ((2 ^ 64 : Nat) : Int)).toNat = _
    omega
  have h2 : (BitVec.ofInt IntKind.i64.bits (b : Int)).toNat = b := by
    rw [BitVec.toNat_ofInt]
    show ((b : Int) % ((2 ^ 64 : Nat) : Int)).toNat = _
    omega
  show IntKind.i64.wrap ((BitVec.ofInt IntKind.i64.bits ((2 ^ 8 * a : Nat) : Int) ||| BitVec.ofInt IntKind.i64.bits (b : Int)).toNat : Int) = _
  rw [BitVec.toNat_or, h1, h2, ← Nat.two_pow_add_eq_or_of_lt (by omega) a, i64_w]
  unfold wrap64
  omega
theorem reps34 (w : World) (base : Nat) (ok : Nat → Prop) (xs : List S34) : Reps (k34.M w base ok) 4 xs (xs.flatMap cellsS) := by
  induction xs with
  | nil => exact Reps.none _ _
  | cons x t ih =>
    have h := Kd.reps_append (Reps.snoc (Reps.none _ _) (k34_mkM w base ok x) rfl) ih
    simpa [cellsS] using h
theorem add_add3 (ad : Addr) (j k : Nat) : ((ad.add 1).add (5 * k)).add j = ad.add (j + 1 + 5 * k) := by
  unfold Addr.add
  rw [if_neg (by decide : ¬ 1 = 0), if_neg (by omega : ¬ j + 1 + 5 * k = 0)]
  by_cases h : 5 * k = 0 <;> by_cases h' : j = 0 <;> simp [h, h'] <;> omega
theorem rd_mem {l : List Int} {i : Int} (h0 : 0 ≤ i) (h1 : i < l.length) : rd l i ∈ l := by
  have h : i.toNat < l.length := by omega
  have : rd l i = l[i.toNat] := by simp [rd, List.getD, h]
  rw [this]; exact List.getElem_mem h
theorem byte_at {w : World} {ad aa : Addr} {l0 : List Int} {k : Nat} (hr : Kd.C (Kd.int .u8) w (some ad) l0.length l0) (hb : ∀ x ∈ l0, 0 ≤ x ∧ x ≤ 255) (haa : aa = (ad.add 1).add (5 * k)) (hk : 5 + 5 * k < l0.length) :
    aa.block < w.heap.size ∧ ((0 ≤ rd l0 ((1 + 5 * k : Nat) : Int) ∧ rd l0 ((1 + 5 * k : Nat) : Int) ≤ 255) ∧ w.cell? aa = some (.int .u8 (rd l0 ((1 + 5 * k : Nat) : Int)))) ∧ ((0 ≤ rd l0 ((2 + 5 * k : Nat) : Int) ∧ rd l0 ((2 + 5 * k : Nat) : Int) ≤ 255) ∧ w.cell? ⟨aa.block, aa.off + 1, none⟩ = some (.int .u8 (rd l0 ((2 + 5 * k : Nat) : Int)))) ∧ ((0 ≤ rd l0 ((3 + 5 * k : Nat) : Int) ∧ rd l0 ((3 + 5 * k : Nat) : Int) ≤ 255) ∧ w.cell? ⟨aa.block, aa.off + 2, none⟩ = some (.int .u8 (rd l0 ((3 + 5 * k : Nat) : Int)))) ∧ ((0 ≤ rd l0 ((4 + 5 * k : Nat) : Int) ∧ rd l0 ((4 + 5 * k : Nat) : Int) ≤ 255) ∧ w.cell? ⟨aa.block, aa.off + 3, none⟩ = some (.int .u8 (rd l0 ((4 + 5 * k : Nat) : Int)))) ∧ ((0 ≤ rd l0 ((5 + 5 * k : Nat) : Int) ∧ rd l0 ((5 + 5 * k : Nat) : Int) ≤ 255) ∧ w.cell? ⟨aa.block, aa.off + 4, none⟩ = some (.int .u8 (rd l0 ((5 + 5 * k : Nat) : Int)))) := by
  have key : ∀ j, j < 5 → w.cell? (aa.add j) = some (.int .u8 (rd l0 ((j + 1 + 5 * k : Nat) : Int))) ∧ (0 ≤ rd l0 ((j + 1 + 5 * k : Nat) : Int) ∧ rd l0 ((j + 1 + 5 * k : Nat) : Int) ≤ 255) := by
    intro j hj
    obtain ⟨a', e, hc⟩ := Kd.at_int hr ((j + 1 + 5 * k : Nat) : Int) (by omega) (by omega)
    cases e
    have ea : aa.add j = ad.add (((j + 1 + 5 * k : Nat) : Int)).toNat := by
      rw [haa, Int.toNat_natCast, add_add3]
    rw [ea]
    exact ⟨hc, hb _ (rd_mem (by omega) (by omega))⟩
  have k0 := key 0 (by omega)
  rw [Addr.add_zero'] at k0
  exact ⟨World.block_lt_of_cell? w _ k0.1, k0.symm, (key 1 (by omega)).symm, (key 2 (by omega)).symm, (key 3 (by omega)).symm, (key 4 (by omega)).symm⟩
theorem startIn_ {P : Program} {ops : Array Oper} {Q : Exit → Act → World → Prop} {S : World → Prop} {ds : List Nat} {id n' : Nat} {a : Act} {w : World} {l n : Nat} (ll : Array Bool) (hm : P.follows .mixedOrders = true) (hQ : ¬ LetsOut Q)
    (hd : ops.toList.all (fun o => match o.op with | .defer _ => false | _ => true) = true) (hn : ops.size = n') (hl : Array.replicate n' false = ll) (hS : S w.drew)
    (h : S w.drew → wpAnyLast P .any ops Q S ds n' ll a w.drew) : (Code.region id ops true).wpIn (Fence.wide.inRound l) n P Q a w := by
  subst hn
  subst hl
  exact Round.region_in_round l n hm hQ hd (wpAny_of_last _ _ _ _ (h hS))
/-- What an append, and the store into the box behind it, leave. -/
theorem boxed_appended {W w1 : World} {n₀ B : Nat} {t e : TypeId} {size : Nat} {v v' : Value} {k m : Nat} {xs ys : List Value}
    (hv : Boxed W B t v) (hte : t ≠ e) (hrow : W.ownsRow n₀ e size v k xs) (hn₀ : n₀ ≤ W.heap.size) (hB : n₀ ≤ B)
    (hown' : w1.ownsRow n₀ e size v' m ys) (hgrow : W.grownBy w1 v.ownBlock) :
    Boxed w1 B t v ∧ Boxed (w1.setCell ⟨B, 0, none⟩ v') B t v' ∧ (w1.setCell ⟨B, 0, none⟩ v').ownsRow n₀ e size v' m ys ∧ KeepsOthers W (w1.setCell ⟨B, 0, none⟩ v') := by
  have hv1 : Boxed w1 B t v := hv.kept hgrow (hv.not_row hte hrow)
  refine ⟨hv1, hv1.set v', hown'.kept (grownBy_setCell' w1 B v') (.inr (hv1.not_row hte hown').symm), ?_⟩
  refine (KeepsOthers.of_grownBy hgrow fun j o ej hj => ?_).trans (KeepsOthers.setCell _ _ _)
  rcases hrow.2 with ⟨rfl, _⟩ | ⟨g, cap, cur, rfl, _, hgb, _⟩
  · simp [Value.ownBlock] at ej
  · obtain rfl : g = j := by simpa [Value.ownBlock] using ej
    rw [hgb] at hj; cases hj; rfl
def schema_Get.f (l0 : List Int) : Option (List S34 × Int) :=
  if l0.length ≤ 100 ∧ (∀ x ∈ l0, 0 ≤ x ∧ x ≤ 255) then
    if 0 < l0.length ∧ (l0.length : Int) = 1 + 5 * rd l0 0 then
      (if Spec.putOk (decS l0 (rd l0 0).toNat) then some (decS l0 (rd l0 0).toNat, 0) else some ([], 7))
    else some ([], 7)
  else none
set_option maxHeartbeats 1000000 in
theorem chunk_in (F : Fence) (hF : F = Fence.wide) (n : Nat) (A : Option Addr) (N c : Nat) (w : World) :
    CallsIn F n Try.prog 24 #[.slice A N c, .int .i64 5] w fun e w' => e = .returned (.func (.func 27) #[] #[.pointer (some ⟨w.heap.size, 0, none⟩), .pointer (some ⟨w.heap.size + 1, 0, none⟩)]) ∧ w' = (w.alloc (.cells #[.slice A N c] 23)).alloc (.cells #[.int .i64 5] 3) := by
  have hro : F.round = none := by rw [hF]; rfl
  have h24 : F.fn 24 := by rw [hF]; trivial
  refine callsIn_of_wp Try.func24 rfl h24 ?_ hro
  simp only [Try.ntmps24, List.size_toArray, List.length_cons, List.length_nil, Nat.reduceAdd, Nat.reduceSub, Array.replicate_succ, Array.replicate_zero, List.push_toArray, List.append_toArray, List.nil_append, List.cons_append]
  gi_wp2
  go_ret
  exact ⟨rfl, rfl⟩
theorem chunk_stops (F : Fence) (hF : F = Fence.wide) (n : Nat) (hn : 1 ≤ n) (Bs Bn m N c : Nat) (hm : m ≤ 1000) (hNm : N = 5 * m) (A : Option Addr) (hc : N ≤ c) (w : World) (hBs : Bs < w.heap.size) (hBn : Bn < w.heap.size) 
    (hcs : w.cell? ⟨Bs, 0, none⟩ = some (.slice A N c)) (hcn : w.cell? ⟨Bn, 0, none⟩ = some (.int .i64 5)) :
    SeqStopsK F n Try.prog 27 #[.pointer (some ⟨Bs, 0, none⟩), .pointer (some ⟨Bn, 0, none⟩)] (fun x : Fin m => #[chunkV A x.1]) (KpB Bs Bn) (fun ys => ys = List.finRange m) (fun pre => True) m w := fun l J Jx W hW hJ _ hY h0 => by
  refine (chunk1_in F hF n hn l Bs Bn m N c hm hNm A hc J Jx hY (fun xs W' hj => hJ xs W' _ none hj ⟨rfl, rfl, rfl, Nat.le_refl _, fun _ _ _ => rfl⟩ (fun r e => by cases e)) W ((hW.cell (p := ⟨Bs, 0, none⟩) hBs).trans hcs) ((hW.cell (p := ⟨Bn, 0, none⟩) hBn).trans hcn) h0).mono ?_
  rintro e W' ⟨he, h | ⟨pre, _, hj⟩⟩
  · exact ⟨he, .inl h⟩
  · exact ⟨he, .inr ⟨pre, trivial, hj⟩⟩

set_option maxRecDepth 100000 in
set_option maxHeartbeats 4000000 in
theorem schema_Get.calls (A0 : Option Addr) (c0 : Nat) (l0 : List Int) (r1 : List S34) (r2 : Int) (w : World) (hr0 : Kd.C (Kd.int .u8) w A0 l0.length l0) (hc0 : l0.length ≤ c0) (h : schema_Get.f l0 = some (r1, r2)) :
    Calls Try.prog 11 #[.slice A0 l0.length c0] w fun e w' => ∃ v0_ : Value, e = .returned (.tuple #[v0_, .int .i64 r2]) ∧ Kd.R k34 34 w' w.heap.size (fun _ => True) v0_ r1 ∧ Below w.heap.size w w' := by
  obtain ⟨i0, hi0, hz0, hz1, hz2⟩ := info_parts info5
  have HR0 := Aside0.mk hr0
  have HH := Aside0.mk h
  clear hr0 h
  refine (callsIn_wide (n := 8)).1 ?_
  obtain ⟨F, hF⟩ : ∃ F, F = Fence.wide := ⟨_, rfl⟩
  rw [← hF]
  have hro : F.round = none := by rw [hF]; rfl
  have h11 : F.fn 11 := by rw [hF]; trivial
  have h27 : F.fn 27 := by rw [hF]; trivial
  have h24 : F.fn 24 := by rw [hF]; trivial
  have h10 : F.fn 10 := by rw [hF]; trivial
  have conv : ∀ (k : Nat) (f : FuncId) args w R, Calls Try.prog f args w R → CallsIn F k Try.prog f args w R := by subst hF; exact fun k f args w R h => callsIn_wide.2 h
  have chin := fun A N c w => chunk_in F hF 7 A N c w
  have chst := chunk_stops F hF 7 (by omega)
  have hF' := Lib.hid hF
  clear hF
  refine callsIn_of_wp_marks Try.func11 rfl h11 ?_ hro
  simp only [Try.ntmps11, List.size_toArray, List.length_cons, List.length_nil, Nat.reduceAdd, Nat.reduceSub, Array.replicate_succ, Array.replicate_zero, List.push_toArray, List.append_toArray, List.nil_append, List.cons_append]
  have h := HH.out
  unfold schema_Get.f at h
  by_cases h100 : ¬ (l0.length ≤ 100 ∧ (∀ x ∈ l0, 0 ≤ x ∧ x ≤ 255))
  · rw [if_neg h100] at h; cases h
  replace h100 := Decidable.of_not_not h100
  rw [if_pos h100] at h
  by_cases hl0 : (l0.length : Int) = 0
  · rw [if_neg (fun z => by omega)] at h
    simp only [Option.some.injEq, Prod.mk.injEq] at h
    obtain ⟨rfl, rfl⟩ := h
    have c3b0 : ((l0.length : Int) == 0) = true := beq_iff_eq.mpr hl0
    clear hl0
    gi_wp2
    exact ⟨_, results_tmp2 rfl _ _ _, _, rfl, Kd.R_nil _ _ _ _ _, Below.refl _ _⟩
  have c3b0 : ((l0.length : Int) == 0) = false := beq_eq_false_iff_ne.mpr hl0
  obtain ⟨ad, rfl, hx0⟩ := Kd.at_int HR0.out 0 (by omega) (by omega)
  rw [show ((0 : Int)).toNat = 0 from rfl, Addr.add_zero'] at hx0
  have hr0 : 0 ≤ rd l0 0 ∧ rd l0 0 ≤ 255 := h100.2 _ (rd_mem (by omega) (by omega))
  by_cases hlen : ¬ (l0.length : Int) = 1 + 5 * rd l0 0
  · rw [if_neg (fun z => hlen z.2)] at h
    simp only [Option.some.injEq, Prod.mk.injEq] at h
    obtain ⟨rfl, rfl⟩ := h
    have hl1 : ((l0.length : Int) != 1 + 5 * rd l0 0) = true := bne_iff_ne.mpr hlen
    have hl2 : ((l0.length : Int) == 1 + 5 * rd l0 0) = false := beq_eq_false_iff_ne.mpr hlen
    have hlt0 : (0 < l0.length) = True := eq_true (by omega)
    gi_wp2
    exact ⟨_, results_tmp2 rfl _ _ _, _, rfl, Kd.R_nil _ _ _ _ _, Below.refl _ _⟩
  replace hlen := Decidable.of_not_not hlen
  obtain ⟨m, hm⟩ : ∃ m : Nat, rd l0 0 = (m : Int) := ⟨(rd l0 0).toNat, by omega⟩
  have hl1 : ((l0.length : Int) != 1 + 5 * rd l0 0) = false := by rw [← hlen]; simp
  have hl2 : ((l0.length : Int) == 1 + 5 * rd l0 0) = true := by rw [← hlen]; simp
  have HM := Lib.hid hm
  have HLEN := Lib.hid hlen
  clear hm hlen
  have hcut := cut_from (P := Try.prog) 23 5 .i64 Try.underlying23 hi0 1 hz1 (some ad) l0.length c0 1 (by omega) (by omega)
  obtain ⟨A1, hA1⟩ : ∃ A1 : Option Addr, A1 = (if c0 = (1 : Int).toNat then some ad else (some ad).map (·.add ((1 : Int).toNat * 1))) := ⟨_, rfl⟩
  rw [← hA1] at hcut
  have HA1 := Lib.hid hA1
  clear hA1
  obtain ⟨N, hN⟩ : ∃ N, N = l0.length - (1 : Int).toNat := ⟨_, rfl⟩
  obtain ⟨c1, hc1⟩ : ∃ c1, c1 = c0 - (1 : Int).toNat := ⟨_, rfl⟩
  rw [← hN, ← hc1] at hcut
  have HN := Lib.hid hN
  have HC1 := Lib.hid hc1
  clear hN hc1
  have hlt0 : (0 < l0.length) = True := eq_true (by omega)
  gi_wp2_with (gi_at_call 24; refine (chin _ _ _ _).mono ?_; rintro e w' ⟨rfl, rfl⟩)
  have bO := Boxed.new w 22 (.slice none 0 0)
  have bS := Boxed.new (w.alloc (.cells #[.slice none 0 0] 22)) 23 (.slice A1 N c1)
  have bN := Boxed.new ((w.alloc (.cells #[.slice none 0 0] 22)).alloc (.cells #[.slice A1 N c1] 23)) 3 (.int .i64 5)
  rw [World.size_alloc] at bS
  rw [World.size_alloc, World.size_alloc] at bN
  have bS := bS.alloc (.cells #[.int .i64 5] 3)
  have bO := (bO.alloc (.cells #[.slice A1 N c1] 23)).alloc (.cells #[.int .i64 5] 3)
  have hB0 : Below w.heap.size w (((w.alloc (.cells #[.slice none 0 0] 22)).alloc (.cells #[.slice A1 N c1] 23)).alloc (.cells #[.int .i64 5] 3)) := (((Below.refl _ w).alloc (Nat.le_refl _) _).alloc (by simp) _).alloc (by simp; omega) _
  have hN5 : N = 5 * m := by have := HN.out; have := HLEN.out; have := HM.out; omega
  have hNc : N ≤ c1 := by have := HN.out; have := HC1.out; omega
  have hm1 : m ≤ 1000 := by have := HM.out; omega
  obtain ⟨Wc, hWc⟩ : ∃ Wc, ((w.alloc (.cells #[.slice none 0 0] 22)).alloc (.cells #[.slice A1 N c1] 23)).alloc (.cells #[.int .i64 5] 3) = Wc := ⟨_, rfl⟩
  have hszc : Wc.heap.size = w.heap.size + 3 := by rw [← hWc]; simp
  rw [hWc] at bO bS bN hB0 ⊢
  clear hWc
  have chs := chst (w.heap.size + 1) (w.heap.size + 1 + 1) m N c1 hm1 hN5 A1 hNc Wc (by omega) (by omega) bS.cell bN.cell
  clear hN5 hNc
  refine wpIn_rangeFunc_ownG hro (by omega) (gf := 27) (lb := #[.pointer (some ⟨w.heap.size + 1, 0, none⟩), .pointer (some ⟨w.heap.size + 1 + 1, 0, none⟩)]) rfl h27 (enters_of Try.func27 (by kernel_rfl) rfl)
    chs (fun {A B C} h k => ⟨k.1.trans h.1, k.2.trans h.2⟩) (fun W l o o' hl _ _ _ => ⟨World.putObj_heap_other (by omega), World.putObj_heap_other (by omega)⟩) (Below.refl _ _) (fun _ => rfl)
    (fun (pre : List (Fin m)) W => ((∃ v, Boxed W w.heap.size 22 v ∧ W.ownsRow w.heap.size 34 4 v pre.length (pre.flatMap fun x => cellsS (chunkS l0 x.1)) ∧ True) ∧ (Boxed W (w.heap.size + 1) 23 (.slice A1 N c1) ∧ Boxed W (w.heap.size + 1 + 1) 3 (.int .i64 5))) ∧ Below w.heap.size w W)
    (fun _ _ _ => False)
    (OwnFrom.and (OwnFrom.and (Own.from (holdsRow_own w.heap.size w.heap.size 22 34 4 (fun pre : List (Fin m) => pre.length) (fun pre : List (Fin m) => pre.flatMap fun x => cellsS (chunkS l0 x.1)) (fun _ _ => True)) _) (OwnFrom.and (Own.from (boxed_own _ _ (fun _ => .slice A1 N c1)) _) (Own.from (boxed_own _ _ (fun _ => .int .i64 5)) _))) (ownFrom_below (Nat.le_refl _) (by omega)))
    (fun _ _ _ _ _ hs _ _ => hs)
    ⟨⟨⟨_, bO, World.ownsRow_nil _ _ _ _, trivial⟩, bS, bN⟩, hB0⟩
    (fun x => { tmps := #[.slice (some ad) l0.length c0, undef, .slice none 0 0, .int .i64 0, .pointer (some ⟨w.heap.size, 0, none⟩), .slice (A1.map (·.add (5 * x.1))) 5 5, undef, undef, .slice (some ad) l0.length c0, .int .i64 (l0.length : Int), .bool false, .bool false, .slice (some ad) l0.length c0, .int .i64 (l0.length : Int), .slice (some ad) l0.length c0, .pointer (some ad), .int .u8 (rd l0 0), .int .i64 (rd l0 0), .int .i64 (5 * rd l0 0), .int .i64 (1 + 5 * rd l0 0), .bool false, .bool false, .slice (some ad) l0.length c0, .slice A1 N c1, .func (.func 27) #[] #[.pointer (some ⟨w.heap.size + 1, 0, none⟩), .pointer (some ⟨w.heap.size + 1 + 1, 0, none⟩)], .slice (A1.map (·.add (5 * x.1))) 5 5, undef, undef, undef, undef, undef, undef, undef, undef, undef, undef, undef, undef, undef, undef, undef, undef, undef, undef, undef, undef, undef, undef, undef, undef, undef, undef, undef, undef, undef, undef, undef, undef, undef, undef], defers := [] }) ?assign ?body ?done ?stop
  case assign =>
    intro l x W K hK
    gi_wp2
    exact hK
  case stop =>
    rintro D c pre W _ _ h _
    exact h.elim
  case body =>
    rintro l pre x W ⟨⟨⟨v, hv, hrow, _⟩, hbS, hbN⟩, hB⟩ hlt
    have hmx : x.1 < m := x.2
    obtain rfl : A1 = some (ad.add 1) := by
      rw [HA1.out, if_neg (by have := HLEN.out; have := HM.out; omega)]; rfl
    obtain ⟨aa, haa⟩ : ∃ aa, aa = (ad.add 1).add (5 * x.1) := ⟨_, rfl⟩
    simp only [Option.map_some, ← haa]
    have HAA := Lib.hid haa
    clear haa
    have hbyte := byte_at HR0.out h100.2 HAA.out (by have := HLEN.out; have := HM.out; omega)
    obtain ⟨hblk, ⟨q0, d0⟩, ⟨q1, d1⟩, ⟨q2, d2⟩, ⟨q3, d3⟩, ⟨q4, d4⟩⟩ := hbyte
    have e0 := (hB.cell (p := aa) hblk).trans d0
    have e1 := (hB.cell (p := ⟨aa.block, aa.off + 1, none⟩) hblk).trans d1
    have e2 := (hB.cell (p := ⟨aa.block, aa.off + 2, none⟩) hblk).trans d2
    have e3 := (hB.cell (p := ⟨aa.block, aa.off + 3, none⟩) hblk).trans d3
    have e4 := (hB.cell (p := ⟨aa.block, aa.off + 4, none⟩) hblk).trans d4
    have hcS : cellsS (chunkS l0 x.1) = [.int .i64 (rd l0 ((1 + 5 * x.1 : Nat) : Int)), .int .i64 (rd l0 ((2 + 5 * x.1 : Nat) : Int)), .int .i64 (rd l0 ((3 + 5 * x.1 : Nat) : Int)), .int .i64 (256 * rd l0 ((4 + 5 * x.1 : Nat) : Int) + rd l0 ((5 + 5 * x.1 : Nat) : Int))] := rfl
    have HCS := Lib.hid hcS
    clear hcS
    generalize rd l0 ((1 + 5 * x.1 : Nat) : Int) = y0 at HCS q0 e0 d0
    generalize rd l0 ((2 + 5 * x.1 : Nat) : Int) = y1 at HCS q1 e1 d1
    generalize rd l0 ((3 + 5 * x.1 : Nat) : Int) = y2 at HCS q2 e2 d2
    generalize rd l0 ((4 + 5 * x.1 : Nat) : Int) = y3 at HCS q3 e3 d3
    generalize rd l0 ((5 + 5 * x.1 : Nat) : Int) = y4 at HCS q4 e4 d4
    rw [hF'.out]
    refine wpIn_block ?_
    refine startIn_ (n' := 27) (S := fun w' => w'.cell? ⟨w.heap.size, 0, none⟩ = some v ∧ w'.cell? aa = some (.int .u8 y0) ∧ w'.cell? ⟨aa.block, aa.off + 1, none⟩ = some (.int .u8 y1) ∧ w'.cell? ⟨aa.block, aa.off + 2, none⟩ = some (.int .u8 y2) ∧ w'.cell? ⟨aa.block, aa.off + 3, none⟩ = some (.int .u8 y3) ∧ w'.cell? ⟨aa.block, aa.off + 4, none⟩ = some (.int .u8 y4)) (ds := [26]) #[false, false, false, false, false, false, false, false, false, false, false, false, false, false, false, false, false, false, false, false, false, false, false, false, false, false, false] (by kernel_rfl) (fun h => by obtain ⟨_, _, z⟩ := h; exact z) rfl rfl rfl ⟨hv.cell, e0, e1, e2, e3, e4⟩ (fun hHeld => ?_); refine with_tabW ge6tab ge6bits (fun HT_ HW_ => ?_)
    have hv2 : Boxed W.drew w.heap.size 22 v := hv
    have hrow2 : W.drew.ownsRow w.heap.size 34 4 v pre.length (pre.flatMap fun x => cellsS (chunkS l0 x.1)) := hrow
    have hB2 : Below w.heap.size w W.drew := below_drew1 hB
    have hbS2 : Boxed W.drew (w.heap.size + 1) 23 (.slice (some (ad.add 1)) N c1) := hbS
    have hbN2 : Boxed W.drew (w.heap.size + 1 + 1) 3 (.int .i64 5) := hbN
    have hKO : KeepsOthers W W.drew := KeepsOthers.drew W
    have hD0 := Lib.hid d0
    have hD1 := Lib.hid d1
    have hD2 := Lib.hid d2
    have hD3 := Lib.hid d3
    have hD4 := Lib.hid d4
    clear d0 d1 d2 d3 d4
    generalize W.drew = W2 at hHeld hv2 hrow2 hB2 hbS2 hbN2 hKO ⊢
    refine take_ (i := 0) (N := some 26) (v := ?_) (a' := ?_) #[true, false, false, false, false, false, false, false, false, false, false, false, false, false, false, false, false, false, false, false, false, false, false, false, false, false, false] rfl rfl (take_ofW HT_.out HW_.out (by kernel_rfl)) (fun _ _ _ h => h) (Or.inl ⟨by rfl, ?_⟩) hHeld ?_ ?_
    rotate_left
    · rintro w' ⟨s0, s1, s2, s3, s4, s5⟩
      go_simp
      with_reducible rfl
    rotate_left
    · simp only [Act.put, List.setIfInBounds_toArray, List.set_cons_zero, List.set_cons_succ, i64_w, i32_w]
      rfl
    refine pure_ (i := 1) (N := some 27) (v := ?_) (a' := ?_) #[true, true, false, false, false, false, false, false, false, false, false, false, false, false, false, false, false, false, false, false, false, false, false, false, false, false, false] rfl rfl (any_of HT_.out (by kernel_rfl)) (fun _ _ _ h => h) (Or.inl ⟨by rfl, ?_⟩) ?_ ?_
    rotate_left
    · intro w'
      go_simp
      with_reducible rfl
    rotate_left
    · simp only [Act.put, List.setIfInBounds_toArray, List.set_cons_zero, List.set_cons_succ, i64_w, i32_w]
      rfl
    refine pure_ (i := 2) (N := some 28) (v := ?_) (a' := ?_) #[true, true, true, false, false, false, false, false, false, false, false, false, false, false, false, false, false, false, false, false, false, false, false, false, false, false, false] rfl rfl (any_of HT_.out (by kernel_rfl)) (fun _ _ _ h => h) (Or.inl ⟨by rfl, ?_⟩) ?_ ?_
    rotate_left
    · intro w'
      go_simp
      with_reducible rfl
    rotate_left
    · simp only [Act.put, List.setIfInBounds_toArray, List.set_cons_zero, List.set_cons_succ, i64_w, i32_w]
      rfl
    refine take_ (i := 3) (N := some 29) (v := ?_) (a' := ?_) #[true, true, true, true, false, false, false, false, false, false, false, false, false, false, false, false, false, false, false, false, false, false, false, false, false, false, false] rfl rfl (take_ofW HT_.out HW_.out (by kernel_rfl)) (fun _ _ _ h => h) (Or.inl ⟨by rfl, ?_⟩) hHeld ?_ ?_
    rotate_left
    · rintro w' ⟨s0, s1, s2, s3, s4, s5⟩
      go_simp
      with_reducible rfl
    rotate_left
    · simp only [Act.put, List.setIfInBounds_toArray, List.set_cons_zero, List.set_cons_succ, i64_w, i32_w]
      rfl
    refine pure_ (i := 4) (N := some 30) (v := ?_) (a' := ?_) #[true, true, true, true, true, false, false, false, false, false, false, false, false, false, false, false, false, false, false, false, false, false, false, false, false, false, false] rfl rfl (any_of HT_.out (by kernel_rfl)) (fun _ _ _ h => h) (Or.inl ⟨by rfl, ?_⟩) ?_ ?_
    rotate_left
    · intro w'
      go_simp
      with_reducible rfl
    rotate_left
    · simp only [Act.put, List.setIfInBounds_toArray, List.set_cons_zero, List.set_cons_succ, i64_w, i32_w]
      rfl
    refine pure_ (i := 5) (N := some 31) (v := ?_) (a' := ?_) #[true, true, true, true, true, true, false, false, false, false, false, false, false, false, false, false, false, false, false, false, false, false, false, false, false, false, false] rfl rfl (any_of HT_.out (by kernel_rfl)) (fun _ _ _ h => h) (Or.inl ⟨by rfl, ?_⟩) ?_ ?_
    rotate_left
    · intro w'
      go_simp
      with_reducible rfl
    rotate_left
    · simp only [Act.put, List.setIfInBounds_toArray, List.set_cons_zero, List.set_cons_succ, i64_w, i32_w]
      rfl
    refine pure_ (i := 6) (N := some 32) (v := ?_) (a' := ?_) #[true, true, true, true, true, true, true, false, false, false, false, false, false, false, false, false, false, false, false, false, false, false, false, false, false, false, false] rfl rfl (any_of HT_.out (by kernel_rfl)) (fun _ _ _ h => h) (Or.inl ⟨by rfl, ?_⟩) ?_ ?_
    rotate_left
    · intro w'
      go_simp
      with_reducible rfl
    rotate_left
    · simp only [Act.put, List.setIfInBounds_toArray, List.set_cons_zero, List.set_cons_succ, i64_w, i32_w]
      rfl
    refine take_ (i := 7) (N := some 33) (v := ?_) (a' := ?_) #[true, true, true, true, true, true, true, true, false, false, false, false, false, false, false, false, false, false, false, false, false, false, false, false, false, false, false] rfl rfl (take_ofW HT_.out HW_.out (by kernel_rfl)) (fun _ _ _ h => h) (Or.inl ⟨by rfl, ?_⟩) hHeld ?_ ?_
    rotate_left
    · rintro w' ⟨s0, s1, s2, s3, s4, s5⟩
      go_simp
      with_reducible rfl
    rotate_left
    · simp only [Act.put, List.setIfInBounds_toArray, List.set_cons_zero, List.set_cons_succ, i64_w, i32_w]
      rfl
    refine pure_ (i := 8) (N := some 34) (v := ?_) (a' := ?_) #[true, true, true, true, true, true, true, true, true, false, false, false, false, false, false, false, false, false, false, false, false, false, false, false, false, false, false] rfl rfl (any_of HT_.out (by kernel_rfl)) (fun _ _ _ h => h) (Or.inl ⟨by rfl, ?_⟩) ?_ ?_
    rotate_left
    · intro w'
      go_simp
      with_reducible rfl
    rotate_left
    · simp only [Act.put, List.setIfInBounds_toArray, List.set_cons_zero, List.set_cons_succ, i64_w, i32_w]
      rfl
    refine pure_ (i := 9) (N := some 35) (v := ?_) (a' := ?_) #[true, true, true, true, true, true, true, true, true, true, false, false, false, false, false, false, false, false, false, false, false, false, false, false, false, false, false] rfl rfl (any_of HT_.out (by kernel_rfl)) (fun _ _ _ h => h) (Or.inl ⟨by rfl, ?_⟩) ?_ ?_
    rotate_left
    · intro w'
      go_simp
      with_reducible rfl
    rotate_left
    · simp only [Act.put, List.setIfInBounds_toArray, List.set_cons_zero, List.set_cons_succ, i64_w, i32_w]
      rfl
    refine pure_ (i := 10) (N := some 36) (v := ?_) (a' := ?_) #[true, true, true, true, true, true, true, true, true, true, true, false, false, false, false, false, false, false, false, false, false, false, false, false, false, false, false] rfl rfl (any_of HT_.out (by kernel_rfl)) (fun _ _ _ h => h) (Or.inl ⟨by rfl, ?_⟩) ?_ ?_
    rotate_left
    · intro w'
      go_simp
      with_reducible rfl
    rotate_left
    · simp only [Act.put, List.setIfInBounds_toArray, List.set_cons_zero, List.set_cons_succ, i64_w, i32_w]
      rfl
    refine take_ (i := 11) (N := some 37) (v := ?_) (a' := ?_) #[true, true, true, true, true, true, true, true, true, true, true, true, false, false, false, false, false, false, false, false, false, false, false, false, false, false, false] rfl rfl (take_ofW HT_.out HW_.out (by kernel_rfl)) (fun _ _ _ h => h) (Or.inl ⟨by rfl, ?_⟩) hHeld ?_ ?_
    rotate_left
    · rintro w' ⟨s0, s1, s2, s3, s4, s5⟩
      go_simp
      with_reducible rfl
    rotate_left
    · simp only [Act.put, List.setIfInBounds_toArray, List.set_cons_zero, List.set_cons_succ, i64_w, i32_w]
      rfl
    refine pure_ (i := 12) (N := some 38) (v := ?_) (a' := ?_) #[true, true, true, true, true, true, true, true, true, true, true, true, true, false, false, false, false, false, false, false, false, false, false, false, false, false, false] rfl rfl (any_of HT_.out (by kernel_rfl)) (fun _ _ _ h => h) (Or.inl ⟨by rfl, ?_⟩) ?_ ?_
    rotate_left
    · intro w'
      go_simp
      with_reducible rfl
    rotate_left
    · simp only [Act.put, List.setIfInBounds_toArray, List.set_cons_zero, List.set_cons_succ, i64_w, i32_w]
      rfl
    refine pure_ (i := 13) (N := some 39) (v := ?_) (a' := ?_) #[true, true, true, true, true, true, true, true, true, true, true, true, true, true, false, false, false, false, false, false, false, false, false, false, false, false, false] rfl rfl (any_of HT_.out (by kernel_rfl)) (fun _ _ _ h => h) (Or.inl ⟨by rfl, ?_⟩) ?_ ?_
    rotate_left
    · intro w'
      go_simp
      with_reducible rfl
    rotate_left
    · simp only [Act.put, List.setIfInBounds_toArray, List.set_cons_zero, List.set_cons_succ, i64_w, i32_w]
      rfl
    refine pure_ (i := 14) (N := some 40) (v := ?_) (a' := ?_) #[true, true, true, true, true, true, true, true, true, true, true, true, true, true, true, false, false, false, false, false, false, false, false, false, false, false, false] rfl rfl (any_of HT_.out (by kernel_rfl)) (fun _ _ _ h => h) (Or.inl ⟨by rfl, ?_⟩) ?_ ?_
    rotate_left
    · intro w'
      go_simp
      with_reducible rfl
    rotate_left
    · simp only [Act.put, List.setIfInBounds_toArray, List.set_cons_zero, List.set_cons_succ, i64_w, i32_w]
      rfl
    refine take_ (i := 15) (N := some 41) (v := ?_) (a' := ?_) #[true, true, true, true, true, true, true, true, true, true, true, true, true, true, true, true, false, false, false, false, false, false, false, false, false, false, false] rfl rfl (take_ofW HT_.out HW_.out (by kernel_rfl)) (fun _ _ _ h => h) (Or.inl ⟨by rfl, ?_⟩) hHeld ?_ ?_
    rotate_left
    · rintro w' ⟨s0, s1, s2, s3, s4, s5⟩
      go_simp
      with_reducible rfl
    rotate_left
    · simp only [Act.put, List.setIfInBounds_toArray, List.set_cons_zero, List.set_cons_succ, i64_w, i32_w]
      rfl
    refine pure_ (i := 16) (N := some 42) (v := ?_) (a' := ?_) #[true, true, true, true, true, true, true, true, true, true, true, true, true, true, true, true, true, false, false, false, false, false, false, false, false, false, false] rfl rfl (any_of HT_.out (by kernel_rfl)) (fun _ _ _ h => h) (Or.inl ⟨by rfl, ?_⟩) ?_ ?_
    rotate_left
    · intro w'
      go_simp
      with_reducible rfl
    rotate_left
    · simp only [Act.put, List.setIfInBounds_toArray, List.set_cons_zero, List.set_cons_succ, i64_w, i32_w]
      rfl
    refine pure_ (i := 17) (N := some 43) (v := ?_) (a' := ?_) #[true, true, true, true, true, true, true, true, true, true, true, true, true, true, true, true, true, true, false, false, false, false, false, false, false, false, false] rfl rfl (any_of HT_.out (by kernel_rfl)) (fun _ _ _ h => h) (Or.inl ⟨by rfl, ?_⟩) ?_ ?_
    rotate_left
    · intro w'
      go_simp
      with_reducible rfl
    rotate_left
    · simp only [Act.put, List.setIfInBounds_toArray, List.set_cons_zero, List.set_cons_succ, i64_w, i32_w]
      rfl
    refine pure_ (i := 18) (N := some 44) (v := ?_) (a' := ?_) #[true, true, true, true, true, true, true, true, true, true, true, true, true, true, true, true, true, true, true, false, false, false, false, false, false, false, false] rfl rfl (any_of HT_.out (by kernel_rfl)) (fun _ _ _ h => h) (Or.inl ⟨by rfl, ?_⟩) ?_ ?_
    rotate_left
    · intro w'
      go_simp
      with_reducible rfl
    rotate_left
    · simp only [Act.put, List.setIfInBounds_toArray, List.set_cons_zero, List.set_cons_succ, i64_w, i32_w]
      rfl
    refine pure_ (i := 19) (N := some 45) (v := ?_) (a' := ?_) #[true, true, true, true, true, true, true, true, true, true, true, true, true, true, true, true, true, true, true, true, false, false, false, false, false, false, false] rfl rfl (any_of HT_.out (by kernel_rfl)) (fun _ _ _ h => h) (Or.inl ⟨by rfl, ?_⟩) ?_ ?_
    rotate_left
    · intro w'
      go_simp
      with_reducible rfl
    rotate_left
    · simp only [Act.put, List.setIfInBounds_toArray, List.set_cons_zero, List.set_cons_succ, i64_w, i32_w]
      rfl
    refine take_ (i := 20) (N := some 46) (v := ?_) (a' := ?_) #[true, true, true, true, true, true, true, true, true, true, true, true, true, true, true, true, true, true, true, true, true, false, false, false, false, false, false] rfl rfl (take_ofW HT_.out HW_.out (by kernel_rfl)) (fun _ _ _ h => h) (Or.inl ⟨by rfl, ?_⟩) hHeld ?_ ?_
    rotate_left
    · rintro w' ⟨s0, s1, s2, s3, s4, s5⟩
      go_simp
      with_reducible rfl
    rotate_left
    · simp only [Act.put, List.setIfInBounds_toArray, List.set_cons_zero, List.set_cons_succ, i64_w, i32_w]
      rfl
    refine pure_ (i := 21) (N := some 47) (v := ?_) (a' := ?_) #[true, true, true, true, true, true, true, true, true, true, true, true, true, true, true, true, true, true, true, true, true, true, false, false, false, false, false] rfl rfl (any_of HT_.out (by kernel_rfl)) (fun _ _ _ h => h) (Or.inl ⟨by rfl, ?_⟩) ?_ ?_
    rotate_left
    · intro w'
      go_simp
      with_reducible rfl
    rotate_left
    · simp only [Act.put, List.setIfInBounds_toArray, List.set_cons_zero, List.set_cons_succ, i64_w, i32_w]
      rfl
    refine pure_ (i := 22) (N := some 48) (v := ?_) (a' := ?_) #[true, true, true, true, true, true, true, true, true, true, true, true, true, true, true, true, true, true, true, true, true, true, true, false, false, false, false] rfl rfl (any_of HT_.out (by kernel_rfl)) (fun _ _ _ h => h) (Or.inl ⟨by rfl, ?_⟩) ?_ ?_
    rotate_left
    · intro w'
      go_simp
      with_reducible rfl
    rotate_left
    · simp only [Act.put, List.setIfInBounds_toArray, List.set_cons_zero, List.set_cons_succ, i64_w, i32_w]
      rfl
    refine pure_ (i := 23) (N := some 49) (v := ?_) (a' := ?_) #[true, true, true, true, true, true, true, true, true, true, true, true, true, true, true, true, true, true, true, true, true, true, true, true, false, false, false] rfl rfl (any_of HT_.out (by kernel_rfl)) (fun _ _ _ h => h) (Or.inl ⟨by rfl, ?_⟩) ?_ ?_
    rotate_left
    · intro w'
      go_simp
      with_reducible rfl
    rotate_left
    · simp only [Act.put, List.setIfInBounds_toArray, List.set_cons_zero, List.set_cons_succ, i64_w, i32_w]
      rfl
    refine one_ (i := 24) (N := some 50) #[true, true, true, true, true, true, true, true, true, true, true, true, true, true, true, true, true, true, true, true, true, true, true, true, true, false, false] rfl rfl (one_of HT_.out (by kernel_rfl)) (by decide) (fun K hK => ?_)
    refine value_ (w1 := ?_) (v := ?_) (by rfl) rfl ?_ ?_
    rotate_left 2
    · go_simp
      constructor
      · rfl
      · rfl
    have hh_ := hHeld
    refine hK.out _ _ ⟨(World.cell?_alloc_lt _ _ _ (World.block_lt_of_cell? _ _ hh_.1)).trans hh_.1, (World.cell?_alloc_lt _ _ _ (World.block_lt_of_cell? _ _ hh_.2.1)).trans hh_.2.1, (World.cell?_alloc_lt _ _ _ (World.block_lt_of_cell? _ _ hh_.2.2.1)).trans hh_.2.2.1, (World.cell?_alloc_lt _ _ _ (World.block_lt_of_cell? _ _ hh_.2.2.2.1)).trans hh_.2.2.2.1, (World.cell?_alloc_lt _ _ _ (World.block_lt_of_cell? _ _ hh_.2.2.2.2.1)).trans hh_.2.2.2.2.1, (World.cell?_alloc_lt _ _ _ (World.block_lt_of_cell? _ _ hh_.2.2.2.2.2)).trans hh_.2.2.2.2.2⟩ (fun hHeld => ?_)
    clear hK K
    refine norm_ (a' := ?_) ?_ ?_
    rotate_left
    · show Act.put _ (some 50) _ = _
      simp only [Act.put, List.setIfInBounds_toArray, List.set_cons_zero, List.set_cons_succ, i64_w, i32_w]
      rfl
    refine one_ (i := 25) (N := some 51) #[true, true, true, true, true, true, true, true, true, true, true, true, true, true, true, true, true, true, true, true, true, true, true, true, true, true, false] rfl rfl (one_of HT_.out (by kernel_rfl)) (by decide) (fun K hK => ?_)
    refine step_append_cells (w0 := w) (W := W2) w.heap.size (by rfl) (.tmp 26) (.tmp 50) 22 34 (.agg #[(.int .i64 0), (.int .i64 0), (.int .i64 0), (.int .i64 0)]) 4 32 rfl Try.underlying22 info34 rfl (by decide) (by decide) v pre.length _ [.int .i64 (wrap64 y0), .int .i64 (wrap64 y1), .int .i64 (wrap64 y2), .int .i64 (bits .or .i64 (wrap64 (wrap64 y3 * 256)) (wrap64 y4))] rfl rfl rfl (by simp [Value.oneCell']) hrow2 hB2 hB2.size (by omega) ?_
    intro v1 w3 hown' hB3 hgrow hat
    obtain ⟨hv3, hv4, hr4, hk4⟩ := boxed_appended hv2 (by decide) hrow2 hB2.size (Nat.le_refl _) hown' hgrow
    obtain ⟨g', cap', rfl⟩ := ownsRow_succ hown'
    have hbS4 := (hbS2.kept hgrow (hbS2.not_row (by decide) hrow2)).other (by omega : w.heap.size + 1 ≠ w.heap.size) (.slice (some ⟨g', 0, none⟩) (pre.length + 1) cap')
    have hbN4 := (hbN2.kept hgrow (hbN2.not_row (by decide) hrow2)).other (by omega : w.heap.size + 1 + 1 ≠ w.heap.size) (.slice (some ⟨g', 0, none⟩) (pre.length + 1) cap')
    refine hK.out _ _ ⟨hv3.cell, (hB3.cell (p := aa) hblk).trans hD0.out, (hB3.cell (p := ⟨aa.block, aa.off + 1, none⟩) hblk).trans hD1.out, (hB3.cell (p := ⟨aa.block, aa.off + 2, none⟩) hblk).trans hD2.out, (hB3.cell (p := ⟨aa.block, aa.off + 3, none⟩) hblk).trans hD3.out, (hB3.cell (p := ⟨aa.block, aa.off + 4, none⟩) hblk).trans hD4.out⟩ (fun hHeld => ?_)
    clear hK K
    refine norm_ (a' := ?_) ?_ ?_
    rotate_left
    · show Act.put _ (some 51) _ = _
      simp only [Act.put, List.setIfInBounds_toArray, List.set_cons_zero, List.set_cons_succ, i64_w, i32_w]
      rfl
    refine last_ (i := 26) (N := none) #[true, true, true, true, true, true, true, true, true, true, true, true, true, true, true, true, true, true, true, true, true, true, true, true, true, true, true] rfl rfl (one_of HT_.out (by kernel_rfl)) (by decide) (fun K hK => ?_)
    have hs93 := hv3.cell
    have hf93 := hv3.frozen
    refine skip_ (w1 := ?_) (by rfl) rfl ?_ ?_
    rotate_left
    · go_simp
      rfl
    refine hK.out _ _ ?_
    clear hK K
    refine done_ (done_of HT_.out (by kernel_rfl)) ?_
    have efm : (pre ++ [x]).flatMap (fun x => cellsS (chunkS l0 x.1)) = pre.flatMap (fun x => cellsS (chunkS l0 x.1)) ++ [.int .i64 y0, .int .i64 y1, .int .i64 y2, .int .i64 (256 * y3 + y4)] := by
      rw [List.flatMap_append, List.flatMap_cons, List.flatMap_nil, List.append_nil, HCS.out]
    rw [wrap_b q0, wrap_b q1, wrap_b q2, or_bytes q3 q4, ← efm] at hr4
    have hlen1 : (pre ++ [x]).length = pre.length + 1 := by simp
    exact ⟨(hKO.trans hk4).from _, ⟨Eq.trans hbS4 (Eq.symm hbS), Eq.trans hbN4 (Eq.symm hbN)⟩, ⟨⟨_, hv4, by rw [hlen1]; exact hr4, trivial⟩, hbS4, hbN4⟩, hB3.setCell (p := ⟨w.heap.size, 0, none⟩) (Nat.le_refl _) _⟩
  case done =>
    rintro D ys W hD rfl ⟨⟨⟨v, hv, hrow, _⟩, hbS, hbN⟩, hB⟩ hK
    have hcell := hv.cell
    have hfl : (List.finRange m).flatMap (fun x => cellsS (chunkS l0 x.1)) = (decS l0 m).flatMap cellsS := by unfold decS; rw [List.flatMap_map]
    have hxl : (decS l0 m).length = (List.finRange m).length := by simp [decS]
    rw [hfl, ← hxl] at hrow
    have hval : (if Spec.putOk (decS l0 m) then some (decS l0 m, 0) else some (([] : List S34), (7 : Int))) = some (r1, r2) := by
      rw [if_pos ⟨by omega, HLEN.out⟩, HM.out, Int.toNat_natCast] at h; exact h
    have HV := Aside0.mk hval
    clear hval h hfl hxl
    generalize decS l0 m = xs at HV hrow
    have HR : Kd.R k34 34 W w.heap.size (fun _ => True) v xs := ⟨fun _ _ => trivial, _, hrow, reps34 _ _ _ _⟩
    obtain ⟨A2, c2, rfl⟩ := own_slice hrow
    obtain ⟨kk, hkk⟩ := (Spec.put_ev xs).rounds
    have hput := schema_Put.calls kk A2 c2 xs (Spec.putS xs).1 (Spec.putS xs).2 W (Kd.R_reads' HR).2.2 (Kd.R_reads' HR).2.1 hkk
    have hp2 : (Spec.putS xs).2 = if Spec.putOk xs then 0 else 1 := by unfold Spec.putS; split <;> rfl
    rw [hp2] at hput
    have HRA := Aside0.mk HR
    have HROW := Aside0.mk hrow
    clear HR hkk hp2 hrow
    by_cases hok : Spec.putOk xs
    · rw [if_pos hok] at hput
      have hV := HV.out
      rw [if_pos hok] at hV
      simp only [Option.some.injEq, Prod.mk.injEq] at hV
      obtain ⟨rfl, rfl⟩ := hV
      gi_wp2_with (gi_at_call 10; refine (conv _ _ _ _ _ hput).mono ?_; clear hput; rintro e w5 ⟨v5, rfl, hR5, hb5⟩; have hcell := (hb5.cell (p := ⟨w.heap.size, 0, none⟩) hv.lt).trans hcell)
      have hKD := (hb5.block D (Array.getElem?_eq_some_iff.1 hK).1).trans hK
      refine ⟨by simp, .inl ⟨_, _, rfl, run_takeDeferred hKD, ?_⟩⟩
      exact ⟨_, results_tmp2 rfl _ _ _, _, rfl, ⟨fun _ _ => trivial, _, ownsRow_putObj (pw_own_below HROW.out hb5) _ hKD rfl, reps34 _ _ _ _⟩, (hB.trans (hb5.mono hB.size)).trans (belowK_b (w := w) (Nat.le_refl _) w5 D _ _ (by omega) hKD rfl rfl)⟩
    · rw [if_neg hok] at hput
      have hV := HV.out
      rw [if_neg hok] at hV
      simp only [Option.some.injEq, Prod.mk.injEq] at hV
      obtain ⟨rfl, rfl⟩ := hV
      gi_wp2_with (gi_at_call 10; refine (conv _ _ _ _ _ hput).mono ?_; clear hput; rintro e w5 ⟨v5, rfl, hR5, hb5⟩; have hcell := (hb5.cell (p := ⟨w.heap.size, 0, none⟩) hv.lt).trans hcell)
      have hKD := (hb5.block D (Array.getElem?_eq_some_iff.1 hK).1).trans hK
      refine ⟨by simp, .inl ⟨_, _, rfl, run_takeDeferred hKD, ?_⟩⟩
      exact ⟨_, results_tmp2 rfl _ _ _, _, rfl, Kd.R_nil _ _ _ _ _, (hB.trans (hb5.mono hB.size)).trans (belowK_b (w := w) (Nat.le_refl _) w5 D _ _ (by omega) hKD rfl rfl)⟩
end Go.Proofs.Ytiafnckmlklodaa.P
