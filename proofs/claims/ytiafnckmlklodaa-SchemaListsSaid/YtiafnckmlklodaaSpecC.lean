/- What schema.Get comes to; bytes of schemas and schemas of bytes. -/
import Derived.Test.YtiafnckmlklodaaPx7
import Derived.Test.YtiafnckmlklodaaSpecB
namespace Go.Proofs.Ytiafnckmlklodaa.Spec
open Go.RowKit Go.Proofs.Ytiafnckmlklodaa.P Go.Proofs.YtiafnckmlklodaaW.PrintWords Go.Proofs.YtiafnckmlklodaaW.PrintLast

/-- The bytes of schemas. -/
def bytesS (xs : List S34) : List Int := ((xs.length : Int) % 256) :: xs.flatMap encB
theorem bytesS_len (xs : List S34) : (bytesS xs).length = 1 + 5 * xs.length := by unfold bytesS; rw [List.length_cons, encB_len]; omega
theorem putS_ok {xs : List S34} (h : putOk xs) : putS xs = (bytesS xs, 0) := by unfold putS; rw [if_pos h]; rfl
theorem putS_no {xs : List S34} (h : ¬ putOk xs) : putS xs = ([], 1) := by unfold putS; rw [if_neg h]
theorem getD_lt {l : List Int} {i : Nat} (h : i < l.length) : l.getD i 0 = l[i] := by simp [List.getD, h]
theorem flat_at : ∀ (xs : List S34) (k j : Nat) (hk : k < xs.length) (_ : j < 5), (xs.flatMap encB).getD (5 * k + j) 0 = (encB xs[k]).getD j 0
  | x :: t, 0, j, _, hj => by
    have hl : (encB x).length = 5 := rfl
    rw [List.flatMap_cons, List.getD_eq_getElem?_getD, List.getD_eq_getElem?_getD, List.getElem?_append_left (by omega)]
    simp
  | x :: t, k + 1, j, hk, hj => by
    have hl : (encB x).length = 5 := rfl
    have ih := flat_at t k j (by simpa using hk) hj
    rw [List.flatMap_cons, List.getD_eq_getElem?_getD, List.getElem?_append_right (by omega), hl, show 5 * (k + 1) + j - 5 = 5 * k + j by omega, ← List.getD_eq_getElem?_getD, ih]
    simp
theorem bytesS_at {xs : List S34} {k j : Nat} (hk : k < xs.length) (hj : j < 5) : (bytesS xs).getD (j + 1 + 5 * k) 0 = (encB xs[k]).getD j 0 := by
  unfold bytesS
  rw [show j + 1 + 5 * k = (5 * k + j) + 1 by omega, List.getD_cons_succ]
  exact flat_at xs k j hk hj
theorem rd_nat (l : List Int) (i : Nat) : rd l (i : Int) = l.getD i 0 := by unfold rd; rw [Int.toNat_natCast]
theorem chunk_bytes {xs : List S34} {k : Nat} (hk : k < xs.length) (h : mayS xs[k] = true) : chunkS (bytesS xs) k = xs[k] := by
  have hb := mayS_b h
  have h0 := bytesS_at hk (j := 0) (by omega)
  have h1 := bytesS_at hk (j := 1) (by omega)
  have h2 := bytesS_at hk (j := 2) (by omega)
  have h3 := bytesS_at hk (j := 3) (by omega)
  have h4 := bytesS_at hk (j := 4) (by omega)
  unfold chunkS
  rw [rd_nat, rd_nat, rd_nat, rd_nat, rd_nat]
  rw [show 0 + 1 + 5 * k = 1 + 5 * k by omega] at h0
  rw [show 1 + 1 + 5 * k = 2 + 5 * k by omega] at h1
  rw [show 2 + 1 + 5 * k = 3 + 5 * k by omega] at h2
  rw [show 3 + 1 + 5 * k = 4 + 5 * k by omega] at h3
  rw [show 4 + 1 + 5 * k = 5 + 5 * k by omega] at h4
  rw [h0, h1, h2, h3, h4]
  generalize xs[k] = s at hb
  obtain ⟨a, b, c, d⟩ := s
  simp only at hb
  show (⟨a % 256, b % 256, c % 256, 256 * (d / 256 % 256) + d % 256⟩ : S34) = ⟨a, b, c, d⟩
  rw [S34.mk.injEq]
  omega
theorem decS_at {l : List Int} {m i : Nat} (h : i < (decS l m).length) : (decS l m)[i] = chunkS l i := by simp [decS]
theorem dec_bytes {xs : List S34} (h : putOk xs) : decS (bytesS xs) xs.length = xs := by
  unfold decS
  apply List.ext_getElem
  · simp
  · intro i h1 h2
    rw [List.getElem_map, List.getElem_finRange]
    exact chunk_bytes h2 (List.all_eq_true.1 h.2 _ (List.getElem_mem h2))
theorem bytesS_range (xs : List S34) : ∀ x ∈ bytesS xs, 0 ≤ x ∧ x ≤ 255 := by
  intro x hx
  rcases List.mem_cons.1 hx with rfl | h
  · omega
  · obtain ⟨s, _, h⟩ := List.mem_flatMap.1 h
    simp only [encB, List.mem_cons, List.not_mem_nil, or_false] at h
    rcases h with rfl | rfl | rfl | rfl | rfl <;> omega
def getOk (l : List Int) : Prop := 0 < l.length ∧ (l.length : Int) = 1 + 5 * rd l 0 ∧ putOk (decS l (rd l 0).toNat)
instance (l : List Int) : Decidable (getOk l) := inferInstanceAs (Decidable (_ ∧ _ ∧ _))
def getS (l : List Int) : List S34 × Int := if getOk l then (decS l (rd l 0).toNat, 0) else ([], 7)
theorem getS_ok {l : List Int} (h : getOk l) : getS l = (decS l (rd l 0).toNat, 0) := by unfold getS; exact if_pos h
theorem getS_no {l : List Int} (h : ¬ getOk l) : getS l = ([], 7) := by unfold getS; exact if_neg h
theorem get_f {l : List Int} (hl : l.length ≤ 100) (hr : ∀ x ∈ l, 0 ≤ x ∧ x ≤ 255) : schema_Get.f l = some (getS l) := by
  unfold schema_Get.f
  rw [if_pos ⟨hl, hr⟩]
  by_cases h : 0 < l.length ∧ (l.length : Int) = 1 + 5 * rd l 0
  · rw [if_pos h]
    by_cases h' : putOk (decS l (rd l 0).toNat)
    · rw [if_pos h', getS_ok ⟨h.1, h.2, h'⟩]
    · rw [if_neg h', getS_no (fun z => h' z.2.2)]
  · rw [if_neg h, getS_no (fun z => h ⟨z.1, z.2.1⟩)]
theorem get_bytes {xs : List S34} (h : putOk xs) : getS (bytesS xs) = (xs, 0) := by
  have h4 := h.1
  have e0 : rd (bytesS xs) 0 = (xs.length : Int) := by
    show (xs.length : Int) % 256 = _
    omega
  have hl := bytesS_len xs
  have e1 : decS (bytesS xs) (rd (bytesS xs) 0).toNat = xs := by rw [e0, Int.toNat_natCast, dec_bytes h]
  rw [getS_ok ⟨by omega, by omega, by rw [e1]; exact h⟩, e1]
theorem get_nil : schema_Get.f [] = some ([], 7) := rfl
theorem bytes_dec {l : List Int} (h : getOk l) (hr : ∀ x ∈ l, 0 ≤ x ∧ x ≤ 255) : bytesS (decS l (rd l 0).toNat) = l := by
  obtain ⟨h0, h1, h2⟩ := h
  have hm0 := (hr _ (rd_mem (l := l) (i := 0) (by omega) (by omega)))
  obtain ⟨m, hm⟩ := Int.eq_ofNat_of_zero_le hm0.1
  rw [hm] at h1 h2 ⊢
  rw [Int.toNat_natCast] at h2 ⊢
  have hdl : (decS l m).length = m := by simp [decS]
  have h4 := h2.1
  rw [hdl] at h4
  have hlen : (bytesS (decS l m)).length = l.length := by rw [bytesS_len, hdl]; omega
  apply List.ext_getElem hlen
  intro i hi hi'
  rw [← getD_lt hi, ← getD_lt hi']
  rcases Nat.eq_zero_or_pos i with rfl | hp
  · show ((decS l m).length : Int) % 256 = _
    rw [hdl, ← Int.toNat_natCast 0, ← show rd l ((0 : Nat) : Int) = l.getD ((0 : Nat) : Int).toNat 0 from rfl]
    rw [show ((0 : Nat) : Int) = 0 from rfl, hm]; omega
  · have hk : (i - 1) / 5 < (decS l m).length := by rw [hdl]; omega
    have hat := bytesS_at (xs := decS l m) (k := (i - 1) / 5) (j := (i - 1) % 5) hk (by omega)
    rw [show (i - 1) % 5 + 1 + 5 * ((i - 1) / 5) = i by omega] at hat
    rw [hat]
    have hel : (decS l m)[(i - 1) / 5] = chunkS l ((i - 1) / 5) := decS_at hk
    rw [hel]
    have hb : ∀ j, j < l.length → 0 ≤ l.getD j 0 ∧ l.getD j 0 ≤ 255 := fun j hj => by rw [getD_lt hj]; exact hr _ (List.getElem_mem hj)
    unfold chunkS encB
    simp only [rd_nat]
    obtain ⟨k, hk'⟩ : ∃ k, k = (i - 1) / 5 := ⟨_, rfl⟩
    rw [← hk']
    have hkm : k < m := by rw [hdl] at hk; omega
    have b1 := hb (1 + 5 * k) (by omega)
    have b2 := hb (2 + 5 * k) (by omega)
    have b3 := hb (3 + 5 * k) (by omega)
    have b4 := hb (4 + 5 * k) (by omega)
    have b5 := hb (5 + 5 * k) (by omega)
    have hj : (i - 1) % 5 = 0 ∨ (i - 1) % 5 = 1 ∨ (i - 1) % 5 = 2 ∨ (i - 1) % 5 = 3 ∨ (i - 1) % 5 = 4 := by omega
    rcases hj with hj | hj | hj | hj | hj <;> rw [hj]
    · have hi1 : i = 1 + 5 * k := by omega
      rw [hi1]; show l.getD (1 + 5 * k) 0 % 256 = _; omega
    · have hi1 : i = 2 + 5 * k := by omega
      rw [hi1]; show l.getD (2 + 5 * k) 0 % 256 = _; omega
    · have hi1 : i = 3 + 5 * k := by omega
      rw [hi1]; show l.getD (3 + 5 * k) 0 % 256 = _; omega
    · have hi1 : i = 4 + 5 * k := by omega
      rw [hi1]; show (256 * l.getD (4 + 5 * k) 0 + l.getD (5 + 5 * k) 0) / 256 % 256 = _; omega
    · have hi1 : i = 5 + 5 * k := by omega
      rw [hi1]; show (256 * l.getD (4 + 5 * k) 0 + l.getD (5 + 5 * k) 0) % 256 = _; omega
theorem same_l (l : List S34) (hl : l.length ≤ 100000) : ∀ (d i : Nat), l.length - i = d → i ≤ l.length → Ev (fun k => drydockref04_Same.l0 k l l (i : Int)) true := by
  intro d
  induction d with
  | zero =>
    intro i hd hi
    exact Ev.step (f := fun _ => some true) (fun k => by simp only [drydockref04_Same.l0]; rw [if_neg (by omega)]) (Ev.now _)
  | succ d ih =>
    intro i hd hi
    refine Ev.step (f := fun k => drydockref04_Same.l0 k l l ((i + 1 : Nat) : Int)) (fun k => ?_) (ih (i + 1) (by omega) (by omega))
    simp only [drydockref04_Same.l0]
    rw [if_pos (by omega), if_pos (by omega), if_pos (by omega), wrap_up (by omega)]
    simp
theorem same_ev (l : List S34) (hl : l.length ≤ 100000) : Ev (fun k => drydockref04_Same.f k l l) true := by
  unfold drydockref04_Same.f
  simp only [if_true]
  exact same_l l hl l.length 0 (by omega) (by omega)
theorem same_no {a b : List S34} (h : a.length ≠ b.length) : Ev (fun k => drydockref04_Same.f k a b) false := by
  unfold drydockref04_Same.f
  have : ¬ (a.length : Int) = (b.length : Int) := by omega
  simp only [if_neg this]
  exact Ev.now _

end Go.Proofs.Ytiafnckmlklodaa.Spec
