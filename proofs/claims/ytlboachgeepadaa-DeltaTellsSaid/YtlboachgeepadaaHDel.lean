/- What slices.DeleteFunc leaves, with the closure of delta.Put: the words that the delta's keys are not. -/
import Derived.Test.YtlboachgeepadaaPx4
import Derived.Lib.Hide
import Derived.Lib.SliceRun
namespace Go.Proofs.Ytlboachgeepadaa.P
open Go.RowKit Go.Proofs.YtlboachgeepadaaW.PrintWords Go.Proofs.YtlboachgeepadaaW.PrintLast Go.Proofs.YtlboachgeepadaaW.PrintMore
set_option linter.unusedVariables false
set_option linter.unusedSimpArgs false

def hasB (L : List Int) (x : Int) : Bool := decide (x ∈ L)
theorem rd_nat_ (l : List Int) (i : Nat) (h : i < l.length) : rd l (i : Int) = l[i] := by
  unfold rd; rw [Int.toNat_natCast, List.getD_eq_getElem?_getD, List.getElem?_eq_getElem h]; rfl
theorem wrap_up_ {i : Nat} (h : i < 9223372036854775807) : wrap64 ((i : Int) + 1) = ((i + 1 : Nat) : Int) := by
  unfold wrap64; omega
theorem hindex_l {L : List Int} {x : Int} (hl : L.length ≤ 100000) : ∀ (q i : Nat), L.length - i = q → i ≤ L.length → ∃ v : Int, slices_Index_uint32_uint32.l0 (q + 1) L x (L.length : Int) (i : Int) = some v ∧ decide (v ≥ 0) = decide (x ∈ L.drop i) := by
  intro q
  induction q with
  | zero =>
    intro i hd hi
    refine ⟨-1, ?_, ?_⟩
    · simp only [slices_Index_uint32_uint32.l0]; rw [if_neg (by omega)]
    · rw [List.drop_eq_nil_of_le (by omega)]; simp
  | succ q ih =>
    intro i hd hi
    have hlt : i < L.length := by omega
    rw [List.drop_eq_getElem_cons hlt]
    by_cases h : x = L[i]
    · refine ⟨(i : Int), ?_, ?_⟩
      · simp only [slices_Index_uint32_uint32.l0]; rw [if_pos (by omega), if_pos (by omega), if_pos (by omega), rd_nat_ L i hlt, if_pos h]
      · rw [decide_eq_true (show (i : Int) ≥ 0 by omega), decide_eq_true (by rw [h]; exact List.mem_cons_self)]
    · obtain ⟨v, h1, h2⟩ := ih (i + 1) (by omega) (by omega)
      refine ⟨v, ?_, ?_⟩
      · rw [slices_Index_uint32_uint32.l0, if_pos (by omega), if_pos (by omega), if_pos (by omega), rd_nat_ L i hlt, if_neg h, wrap_up_ (by omega)]; exact h1
      · rw [h2]; apply decide_eq_decide.2; rw [List.mem_cons]; exact ⟨.inr, fun z => z.resolve_left h⟩
theorem contains_k {L : List Int} {x : Int} (hl : L.length ≤ 100000) : slices_Contains_uint32_uint32.f (L.length + 1) L x = some (hasB L x) := by
  obtain ⟨v, h1, h2⟩ := hindex_l (L := L) (x := x) hl L.length 0 (by omega) (by omega)
  unfold slices_Contains_uint32_uint32.f slices_Index_uint32_uint32.f
  rw [show ((0 : Int)) = ((0 : Nat) : Int) from rfl, h1]
  simp only [Option.bind_some, Option.some.injEq]
  rw [List.drop_zero] at h2
  exact h2
set_option maxHeartbeats 1000000 in
set_option maxRecDepth 100000 in
/-- The closure: is a word one of the delta's keys? -/
theorem del1 (x : Int) (L : List Int) (A : Option Addr) (c g : Nat) (b : Value) (w : World) (hL : L.length ≤ 100000) (hg : w.heap[g]? = some (.cells #[.slice A L.length c, b] 25 (0, 0))) (hC : Kd.C (Kd.int .u32) w A L.length L) (hc : L.length ≤ c) :
    Calls Try.prog 29 #[.int .u32 x, .pointer (some ⟨g, 0, none⟩)] w fun e w' => e = .returned (.bool (hasB L x)) ∧ Drawn0 w w' := by
  have hu25 := Try.underlying25
  have HC0 := Aside0.mk hC
  have HK := Aside0.mk (contains_k (x := x) hL)
  have HL := Aside0.mk hc
  have hcz_0 : w.cell? ⟨g, 0, none⟩ = some (.slice A L.length c) := (blk_cell hg 0).trans rfl
  clear hC hc hg hL
  go_enter Try.func29, Try.ntmps29
  go_wp2_with (go_at_call 24; (with_reducible refine (slices_Contains_uint32_uint32.calls _ _ _ L x _ _ HC0.out HL.out HK.out).mono ?_); rintro e w' ⟨rfl, ⟨nd, rfl⟩⟩)
  go_ret
  exact ⟨rfl, ⟨_, rfl⟩⟩
/-- Where the first of the delta's keys is, counted from i; -1: nowhere. -/
def ixB (L : List Int) : List Int → Nat → Int
  | [], _ => -1
  | x :: t, i => if hasB L x = true then (i : Int) else ixB L t (i + 1)
theorem ixB_cons (L : List Int) (x : Int) (t : List Int) (i : Nat) : ixB L (x :: t) i = if hasB L x = true then (i : Int) else ixB L t (i + 1) := rfl
set_option maxHeartbeats 2000000 in
set_option maxRecDepth 100000 in
/-- slices.IndexFunc with that closure. -/
theorem del_idx (As : Option Addr) (c0 : Nat) (xs L : List Int) (A : Option Addr) (c g : Nat) (b : Value) (w : World) (hL : L.length ≤ 100000) (hx : Kd.C (Kd.int .u32) w As xs.length xs) (hg : w.heap[g]? = some (.cells #[.slice A L.length c, b] 25 (0, 0))) (hC : Kd.C (Kd.int .u32) w A L.length L) (hc : L.length ≤ c) :
    Calls Try.prog 35 #[.slice As xs.length c0, .func (.func 29) #[] #[.pointer (some ⟨g, 0, none⟩)]] w fun e w' => e = .returned (.int .i64 (ixB L xs 0)) ∧ Drawn0 w w' := by
  have HR0 := Aside0.mk hx
  have HG0 := Aside0.mk hg
  have HC0 := Aside0.mk hC
  have HL0 := Aside0.mk hL
  have HC1 := Aside0.mk hc
  have hlen : xs.length ≤ 9223372036854775807 := hx.2.1
  clear hx hg hC hc hL
  have HB : Aside0 (Drawn0 w w) := ⟨⟨0, rfl⟩⟩
  go_enter Try.func35, Try.ntmps35
  go_wp2
  go_loopg [8] xs.length (fun kq v8 w' => ∃ i : Nat, v8 = .int .i64 (i : Int) ∧ i ≤ xs.length ∧ Aside0 (kq + i = xs.length ∧ ixB L xs 0 = ixB L (xs.drop i) i) ∧ Aside0 (Drawn0 w w'))
  case atStart => exact ⟨0, rfl, Nat.zero_le _, ⟨rfl, rfl⟩, HB⟩
  case round =>
    clear HB
    obtain ⟨i, rfl, hi, HF, HB⟩ := hrel
    by_cases hlt : i < xs.length
    · obtain ⟨nd, rfl⟩ := HB.out
      have hbw := pw_below_drewN (Below.refl w.heap.size w) nd
      obtain ⟨ad, e1, hx0⟩ := Kd.at_int (Kd.C_below HR0.out hbw) (i : Int) (by omega) (by omega)
      cases e1
      rw [rd_nat_ xs i hlt, Int.toNat_natCast] at hx0
      have hdr := Lib.hid (List.drop_eq_getElem_cons hlt)
      have HG1 := Aside0.mk (blk_drewN HG0.out nd)
      have HC2 := Aside0.mk (Kd.C_below HC0.out hbw)
      clear hbw
      by_cases hxa : hasB L xs[i] = true
      · have HX := Lib.hid hxa
        have hb0 : hasB L xs[i] = true := hxa
        clear hxa
        go_wp2_with (go_at_call 29; (with_reducible refine (del1 _ L A c g b _ HL0.out HG1.out HC2.out HC1.out).mono ?_); rintro e w2 ⟨rfl, ⟨nd2, rfl⟩⟩)
        go_ret
        refine ⟨?_, ⟨_, rfl⟩⟩
        rw [HF.out.2, hdr.out, ixB_cons, if_pos HX.out]
        rfl
      · have HX := Lib.hid hxa
        have hb0 : hasB L xs[i] = false := by simpa using hxa
        clear hxa
        cases gk with
        | zero => exact absurd HF.out.1 (by omega)
        | succ k1 =>
          go_wp2_with (go_at_call 29; (with_reducible refine (del1 _ L A c g b _ HL0.out HG1.out HC2.out HC1.out).mono ?_); rintro e w2 ⟨rfl, ⟨nd2, rfl⟩⟩)
          go_roundg k1
          case measure => omega
          case rel =>
            refine ⟨i + 1, by go_num, by omega, ⟨by have := HF.out.1; omega, ?_⟩, ⟨⟨_, rfl⟩⟩⟩
            rw [HF.out.2, hdr.out, ixB_cons, if_neg HX.out]
    · have he : xs.drop i = [] := List.drop_eq_nil_of_le (by omega)
      have HE := Lib.hid he
      clear he
      go_wp2
      go_ret
      refine ⟨?_, HB.out⟩
      rw [HF.out.2, HE.out]
      rfl
theorem ixB_neg {L : List Int} {xs : List Int} {i : Nat} (h : ∀ x ∈ xs, hasB L x = false) : ixB L xs i = -1 := by
  induction xs generalizing i with
  | nil => rfl
  | cons x t ih => rw [ixB_cons, if_neg (by rw [h x (by simp)]; simp), ih (fun y hy => h y (by simp [hy]))]
theorem ixB_or (L : List Int) (xs : List Int) : ∀ i : Nat, (ixB L xs i = -1 ∧ ∀ x ∈ xs, hasB L x = false) ∨ ∃ p, ∃ h : p < xs.length, ixB L xs i = ((i + p : Nat) : Int) ∧ hasB L xs[p] = true ∧ ∀ x ∈ xs.take p, hasB L x = false := by
  induction xs with
  | nil => intro i; exact .inl ⟨rfl, by simp⟩
  | cons x t ih =>
    intro i
    rw [ixB_cons]
    by_cases h : hasB L x = true
    · rw [if_pos h]; exact .inr ⟨0, by simp, rfl, h, by simp⟩
    · rw [if_neg h]
      simp only [Bool.not_eq_true] at h
      rcases ih (i + 1) with ⟨h1, h2⟩ | ⟨p, hp, h1, h2, h3⟩
      · exact .inl ⟨h1, fun y hy => by rcases List.mem_cons.1 hy with rfl | hy; exact h; exact h2 y hy⟩
      · refine .inr ⟨p + 1, by simpa using hp, by rw [h1]; congr 1; omega, by simpa using h2, ?_⟩
        intro y hy
        rw [List.take_succ_cons] at hy
        rcases List.mem_cons.1 hy with rfl | hy
        · exact h
        · exact h3 y hy
/-- What stays. -/
def keepL (L xs : List Int) : List Int := xs.filter (fun x => !hasB L x)
theorem keep_all {L xs : List Int} (h : ∀ x ∈ xs, hasB L x = false) : keepL L xs = xs := List.filter_eq_self.2 (fun x hx => by rw [h x hx]; rfl)
theorem row_zeros {base c s : Nat} {ok : Nat → Prop} : ∀ (m i : Nat) (W : World) (ys : List Int), i + m ≤ ys.length → Kd.R (Kd.int .u32) 27 W base ok (.slice (some ⟨s, 0, none⟩) ys.length c) ys →
    ∃ zs : List Int, zs.length = ys.length ∧ zs.take i = ys.take i ∧ Kd.R (Kd.int .u32) 27 (W.setCells s i (List.replicate m (.int .u32 0))) base ok (.slice (some ⟨s, 0, none⟩) ys.length c) zs := by
  intro m
  induction m with
  | zero => intro i W ys _ h; exact ⟨ys, rfl, rfl, h⟩
  | succ m ih =>
    intro i W ys hi h
    have h2 := (Kd.R_put h (i : Int) (0 : Int)).1
    rw [Int.toNat_natCast] at h2
    obtain ⟨zs, e1, e2, e3⟩ := ih (i + 1) _ (ys.set i 0) (by rw [List.length_set]; omega) (by rw [List.length_set]; exact h2)
    rw [List.length_set] at e1 e3
    refine ⟨zs, e1, ?_, e3⟩
    have := congrArg (List.take i) e2
    rw [List.take_take, List.take_take, Nat.min_eq_left (by omega)] at this
    rw [this, List.take_set, List.set_eq_of_length_le (by rw [List.length_take]; omega)]
theorem setCells_other (b g : Nat) (h : g ≠ b) : ∀ (vs : List Value) (o : Nat) (w : World), (w.setCells b o vs).heap[g]? = w.heap[g]? := by
  intro vs
  induction vs with
  | nil => intro o w; rfl
  | cons v r ih =>
    intro o w
    exact (ih (o + 1) _).trans (Below.heap_setCell w ⟨b, o, none⟩ v g h)
theorem setCells_below (b base : Nat) (w0 : World) (h : base ≤ b) : ∀ (vs : List Value) (o : Nat) (w : World), Below base w0 w → Below base w0 (w.setCells b o vs) := by
  intro vs
  induction vs with
  | nil => intro o w hb; exact hb
  | cons v r ih =>
    intro o w hb
    exact ih (o + 1) _ (hb.setCell h _)
theorem zero27 (w : World) : (zeroValue 27).run Try.prog w = .ok (.int .u32 0) w := by
  have h27 : (Try.prog.info? 27).map (fun i => (i.zero, i.size, i.bytes)) = some (some (.int .u32 0), 1, 4) := by kernel_rfl
  obtain ⟨i0, hi0, hz0, _, _⟩ := info_parts h27
  simp [zeroValue, typeInfo, hi0, hz0]
theorem keep_step {L xs : List Int} {j : Nat} (h : j < xs.length) : keepL L (xs.take (j + 1)) = if hasB L xs[j] = true then keepL L (xs.take j) else keepL L (xs.take j) ++ [xs[j]] := by
  unfold keepL
  rw [List.take_add_one, List.getElem?_eq_getElem h, List.filter_append]
  by_cases hb : hasB L xs[j] = true
  · rw [if_pos hb]; simp [hb]
  · rw [if_neg hb]; simp [hb]
theorem own_form {w : World} {base c : Nat} {ok : Nat → Prop} {As : Option Addr} {xs : List Int} (h : Kd.R (Kd.int .u32) 27 w base ok (.slice As xs.length c) xs) (hp : 0 < xs.length) : ∃ s, As = some ⟨s, 0, none⟩ ∧ base ≤ s := by
  obtain ⟨_, inner, ho, _⟩ := h
  rcases ho.2 with ⟨_, h0⟩ | ⟨g, cap, cur, he, hb, _⟩
  · omega
  · injection he with h1 _ _
    exact ⟨g, h1, hb⟩
theorem row_cell {w : World} {base c s : Nat} {ok : Nat → Prop} {ys : List Int} (h : Kd.R (Kd.int .u32) 27 w base ok (.slice (some ⟨s, 0, none⟩) ys.length c) ys) (j : Nat) (hj : j < ys.length) : w.cell? ⟨s, j, none⟩ = some (.int .u32 ys[j]) ∧ w.frozen? ⟨s, j, none⟩ = false := by
  have := Kd.R_cell (0 : Int) h (j : Int) (by omega) (by omega)
  rw [Int.toNat_natCast] at this
  refine ⟨?_, this.2⟩
  rw [this.1]
  show some (Value.int .u32 (ys.getD _ 0)) = _
  rw [Int.toNat_natCast, List.getD_eq_getElem?_getD, List.getElem?_eq_getElem hj]; rfl
set_option maxHeartbeats 4000000 in
set_option maxRecDepth 100000 in
/-- slices.DeleteFunc with that closure, of a row of the call's own. -/
theorem del_func (w0 W : World) (v : Value) (xs L : List Int) (A : Option Addr) (c g : Nat) (b : Value) (ok : Nat → Prop) (hL : L.length ≤ 100000) (hxs : xs.length ≤ 100000) (HO : Kd.R (Kd.int .u32) 27 W w0.heap.size ok v xs) (hg : W.heap[g]? = some (.cells #[.slice A L.length c, b] 25 (0, 0))) (hne : some g ≠ v.ownBlock) (hC : Kd.C (Kd.int .u32) w0 A L.length L) (hc : L.length ≤ c) (hB : Below w0.heap.size w0 W) :
    Calls Try.prog 28 #[v, .func (.func 29) #[] #[.pointer (some ⟨g, 0, none⟩)]] W fun e w' => ∃ u, e = .returned u ∧ u.ownBlock = v.ownBlock ∧ Kd.R (Kd.int .u32) 27 w' w0.heap.size ok u (keepL L xs) ∧ Below w0.heap.size w0 w' ∧ (∀ k, k < W.heap.size → some k ≠ v.ownBlock → w'.heap[k]? = W.heap[k]?) := by
  obtain ⟨As, c0, rfl, hl0, hC0⟩ := Kd.R_reads HO
  have HX := Aside0.mk hC0
  have HG := Aside0.mk hg
  have HCC := Aside0.mk (Kd.C_below hC hB)
  have HC0 := Aside0.mk hC
  have HL := Aside0.mk hL
  have HC1 := Aside0.mk hc
  have HR := Aside0.mk HO
  have HBB := Aside0.mk hB
  have HN := Aside0.mk hne
  have HXS := Aside0.mk hxs
  clear hC0 hg hC hL hc HO hB hne hl0 hxs
  rcases ixB_or L xs 0 with ⟨hix, hall⟩ | ⟨p, hp, hix, hpos, hpre⟩
  · have HI := Lib.hid hix
    have HA := Lib.hid (keep_all hall)
    clear hall
    go_enter Try.func28, Try.ntmps28
    go_wp2_with (go_at_call 35; (with_reducible refine (del_idx As c0 xs L A c g b _ HL.out HX.out HG.out HCC.out HC1.out).mono ?_); rintro e w2 ⟨rfl, ⟨nd, rfl⟩⟩; try simp only [hix])
    go_ret
    refine ⟨_, rfl, rfl, ?_, ?_, fun k _ _ => rfl⟩
    · rw [HA.out]; exact Kd.R_drewN HR.out nd
    · exact pw_below_drewN HBB.out nd
  · obtain ⟨s, rfl, hs⟩ := own_form HR.out (by omega)
    have hix2 : ixB L xs 0 = (p : Int) := by rw [hix, Nat.zero_add]
    clear hix
    have hm1 : ((p : Int) == -1) = false := by rw [beq_eq_false_iff_ne]; omega
    have HP := Aside0.mk (show keepL L (xs.take (p + 1)) = xs.take p from by rw [keep_step hp, if_pos hpos, keep_all hpre])
    have HS := Aside0.mk hs
    have hgs : g ≠ s := fun e => HN.out (by rw [e]; rfl)
    clear hpos hpre hs
    go_enter Try.func28, Try.ntmps28
    go_wp2_with (go_at_call 35; (with_reducible refine (del_idx _ c0 xs L A c g b _ HL.out HX.out HG.out HCC.out HC1.out).mono ?_); rintro e w2 ⟨rfl, ⟨nd, rfl⟩⟩; try simp only [hix2])
    go_loopg [5, 6] xs.length (fun kq v5 v6 w' => ∃ (i j : Nat) (ys : List Int), v5 = .int .i64 (i : Int) ∧ v6 = .int .i64 (j : Int) ∧ i < j ∧ j ≤ xs.length ∧ Aside0 (xs.length ≤ kq + j ∧ ys.length = xs.length ∧ ys.take i = keepL L (xs.take j) ∧ ys.drop j = xs.drop j) ∧ Aside0 (Kd.R (Kd.int .u32) 27 w' w0.heap.size ok (.slice (some ⟨s, 0, none⟩) ys.length c0) ys) ∧ Aside0 (w'.heap[g]? = some (.cells #[.slice A L.length c, b] 25 (0, 0))) ∧ Aside0 (Below w0.heap.size w0 w') ∧ Aside0 (∀ k, k < W.heap.size → k ≠ s → w'.heap[k]? = W.heap[k]?))
    case atStart => exact ⟨p, p + 1, xs, rfl, by rw [wrap_up_ (by have := HXS.out; omega)], by omega, by omega, ⟨by omega, rfl, HP.out.symm, rfl⟩, ⟨Kd.R_drewN HR.out nd⟩, ⟨HG.out⟩, ⟨pw_below_drewN HBB.out nd⟩, ⟨fun _ _ _ => rfl⟩⟩
    case round =>
      clear HR HG HBB HX HCC HP
      obtain ⟨i, j, ys, rfl, rfl, hij, hjn, HF, HR, HG, HBB, HK⟩ := hrel
      have HCC := Aside0.mk (Kd.C_below HC0.out HBB.out)
      have hyl := HF.out.2.1
      by_cases hlt : j < xs.length
      · have hcj := row_cell HR.out j (by omega)
        obtain ⟨zi, hci1, hci2⟩ : ∃ z : Int, wr.cell? ⟨s, i, none⟩ = some (.int .u32 z) ∧ wr.frozen? ⟨s, i, none⟩ = false := ⟨_, row_cell HR.out i (by omega)⟩
        have hyj : ys[j]'(by omega) = xs[j] := by
          have h1 := congrArg (fun l => l[0]?) HF.out.2.2.2
          simp only [List.getElem?_drop, Nat.add_zero] at h1
          rw [List.getElem?_eq_getElem (by omega), List.getElem?_eq_getElem hlt] at h1
          exact Option.some.inj h1
        rw [hyj] at hcj
        have hcj1 := hcj.1
        clear hcj
        have HYL := Lib.hid hyl
        have hlt2 : (j : Int) < (xs.length : Int) := by omega
        have hlt3 : (0 : Int) ≤ (j : Int) := by omega
        have hlt4 : (i : Int) < (xs.length : Int) := by omega
        have hlt5 : (0 : Int) ≤ (i : Int) := by omega
        clear hyj hyl
        cases gk with
        | zero => exact absurd HF.out.1 (by omega)
        | succ k1 =>
          by_cases hb : hasB L xs[j] = true
          · have HX := Lib.hid (keep_step (L := L) hlt)
            have HB2 := Lib.hid hb
            go_wp2_with (go_at_call 29; (with_reducible refine (del1 _ L A c g b _ HL.out HG.out HCC.out HC1.out).mono ?_); rintro e w2 ⟨rfl, ⟨nd2, rfl⟩⟩)
            go_roundg k1
            case measure => omega
            case rel =>
              refine ⟨i, j + 1, ys, rfl, by rw [wrap_up_ (by have := HXS.out; omega)], by omega, by omega, ⟨by have := HF.out.1; omega, HYL.out, ?_, ?_⟩, ⟨Kd.R_drewN HR.out nd2⟩, ⟨HG.out⟩, ⟨pw_below_drewN HBB.out nd2⟩, ⟨HK.out⟩⟩
              · rw [HF.out.2.2.1, HX.out, if_pos HB2.out]
              · rw [← List.drop_drop, ← List.drop_drop, HF.out.2.2.2]
          · have hb2 : hasB L xs[j] = false := by simpa using hb
            have HX := Lib.hid (keep_step (L := L) hlt)
            have HB2 := Lib.hid hb
            clear hb
            go_wp2_with (go_at_call 29; (with_reducible refine (del1 _ L A c g b _ HL.out HG.out HCC.out HC1.out).mono ?_); rintro e w2 ⟨rfl, ⟨nd2, rfl⟩⟩)
            go_roundg k1
            case measure => omega
            case rel =>
              have hput := (Kd.R_put (Kd.R_drewN HR.out nd2) (i : Int) xs[j]).1
              rw [Int.toNat_natCast] at hput
              refine ⟨i + 1, j + 1, ys.set i xs[j], by rw [wrap_up_ (by have := HXS.out; omega)], by rw [wrap_up_ (by have := HXS.out; omega)], by omega, by omega, ⟨by have := HF.out.1; omega, by rw [List.length_set]; exact HYL.out, ?_, ?_⟩, ⟨by rw [List.length_set]; exact hput⟩, ⟨blk_far (blk_drewN HG.out nd2) hgs _⟩, ⟨(pw_below_drewN HBB.out nd2).setCell HS.out _⟩, ⟨fun k hk hks => (Below.heap_setCell _ _ _ k hks).trans (HK.out k hk hks)⟩⟩
              · rw [HX.out, if_neg HB2.out, List.take_add_one, List.take_set, List.set_eq_of_length_le (by rw [List.length_take]; omega), HF.out.2.2.1, List.getElem?_set_self (by have := HYL.out; omega)]; rfl
              · rw [List.drop_set_of_lt (by omega), ← List.drop_drop, ← List.drop_drop, HF.out.2.2.2]
      · have hjn2 : j = xs.length := by omega
        subst hjn2
        have HYL := Lib.hid hyl
        have hlt4 : (i : Int) ≤ (xs.length : Int) := by omega
        have hlt5 : (0 : Int) ≤ (i : Int) := by omega
        clear hyl
        have hc1 := (Kd.R_reads' HR.out).2.1
        rw [HYL.out] at hc1
        have hn1 : ¬ c0 = i := by omega
        have hn2 : ¬ i = c0 := by omega
        have hn3 : ¬ c0 = 0 := by omega
        have hn4 : (i : Int) ≤ (c0 : Int) := by omega
        obtain ⟨zs, ez, et, hz⟩ := row_zeros (xs.length - i) i wr ys (by have := HYL.out; omega) HR.out
        have hcl : (Builtin.clear_ #[22] 0 #[.slice (some ⟨s, i, none⟩) (xs.length - i) (c0 - i)]).run Try.prog wr = .ok (.tuple #[]) (wr.setCells s i (List.replicate (xs.length - i) (.int .u32 0))) := by
          refine Lib.run_clear_slice wr 22 27 0 (.int .u32 0) Try.underlying22 zero27 rfl rfl s i _ _ (by omega) (fun q hq => ?_) (fun q hq => ?_)
          · rw [(row_cell HR.out (i + q) (by have := HYL.out; omega)).1]
            rfl
          · exact (row_cell HR.out (i + q) (by have := HYL.out; omega)).2
        have HZ := Aside0.mk hz
        have HT := Lib.hid (et.trans (HF.out.2.2.1.trans (by rw [List.take_length])))
        have HE := Lib.hid ez
        have HB4 := Aside0.mk (setCells_below s w0.heap.size w0 HS.out (List.replicate (xs.length - i) (.int .u32 0)) i wr HBB.out)
        have HK4 := Aside0.mk (fun k (hk : k < W.heap.size) (hks : k ≠ s) => (setCells_other s k hks (List.replicate (xs.length - i) (.int .u32 0)) i wr).trans (HK.out k hk hks))
        clear hz et ez hc1
        generalize wr.setCells s i (List.replicate (xs.length - i) (.int .u32 0)) = W4 at hcl HZ HB4 HK4
        go_wp2
        go_ret
        refine ⟨_, rfl, rfl, ?_, HB4.out, fun k hk hks => HK4.out k hk (fun e => hks (by rw [e]; rfl))⟩
        have := Kd.R_take HZ.out (m := i) (by have := HE.out; have := HYL.out; omega)
        rwa [HT.out] at this
end Go.Proofs.Ytlboachgeepadaa.P
