/- A row of records, of which the first i lead to rows of the call's own and the others to what came in. -/
import Derived.Test.YtlboachgeepadaaHClones
import Derived.Test.YtlboachgeepadaaHClone
namespace Go.Proofs.Ytlboachgeepadaa.P
open Go.RowKit Go.Proofs.YtlboachgeepadaaW.PrintWords Go.Proofs.YtlboachgeepadaaW.PrintLast Go.Proofs.YtlboachgeepadaaW.PrintMore
set_option linter.unusedVariables false
set_option linter.unusedSimpArgs false
section
variable {α β : Type} {hd : α → Value} {tl : α → List β} {d : Kd β} {e e2 : Nat} {l : List α} {w W W1 : World} {N s i : Nat} {f : Nat → Nat} {ws : List (List Value)}
/-- Element j < i leads to a row of one's own (its blocks are those that f gives to j), element j ≥ i to a row that stood at w. -/
def Mix (hd : α → Value) (tl : α → List β) (d : Kd β) (e : Nat) (l : List α) (w W : World) (N s i : Nat) (f : Nat → Nat) (ws : List (List Value)) : Prop :=
  ws.length = l.length ∧ (∀ j x, l[j]? = some x → j < i → ∃ u, ws[j]? = some [hd x, u] ∧ d.R e W N (fun k => k ≠ s ∧ f k = j) u (tl x)) ∧
    ∀ j x, l[j]? = some x → i ≤ j → ∃ A c, ws[j]? = some [hd x, .slice A (tl x).length c] ∧ (tl x).length ≤ c ∧ d.C w A (tl x).length (tl x)
theorem mix_world (h : Mix hd tl d e l w W N s i f ws) (hm : ∀ k, k < W.heap.size → k ≠ s → W1.heap[k]? = W.heap[k]?) : Mix hd tl d e l w W1 N s i f ws :=
  ⟨h.1, fun j x hj hji => by
    obtain ⟨u, h1, h2⟩ := h.2.1 j x hj hji
    exact ⟨u, h1, Kd.R_step h2 (fun k hk hlt => hm k hlt hk.1)⟩, h.2.2⟩
theorem mix_below (h : Mix hd tl d e l w W N s i f ws) (hb : Below W.heap.size W W1) : Mix hd tl d e l w W1 N s i f ws := mix_world h (fun k hk _ => hb.block k hk)
theorem mix_step (h : Mix hd tl d e l w W N s i f ws) (hN : N ≤ W.heap.size) (hs : s < W.heap.size) {x : α} (hx : l[i]? = some x) {u : Value} (hu : d.R e W1 W.heap.size (fun _ => True) u (tl x)) (hB : Below W.heap.size W W1) :
    ∃ f', Mix hd tl d e l w W1 N s (i + 1) f' (ws.set i [hd x, u]) := by
  have hil : i < l.length := (List.getElem?_eq_some_iff.1 hx).1
  refine ⟨fun k => if W.heap.size ≤ k then i else f k, by rw [List.length_set]; exact h.1, fun j y hy hj => ?_, fun j y hy hj => ?_⟩
  · rcases Nat.lt_or_ge j i with hlt | hge
    · obtain ⟨v, h1, h2⟩ := h.2.1 j y hy hlt
      refine ⟨v, by rw [List.getElem?_set_ne (by omega)]; exact h1, Kd.R_mono (Kd.R_step (Kd.R_bound h2) (fun k hk hlt2 => hB.block k hlt2)) (fun k hk => ⟨hk.1.1, ?_⟩)⟩
      show (if W.heap.size ≤ k then i else f k) = j
      rw [if_neg (by have := hk.2.2.1; omega)]
      exact hk.1.2
    · have e0 : j = i := by omega
      subst e0
      rw [hx] at hy
      obtain rfl := Option.some.inj hy
      refine ⟨u, by rw [List.getElem?_set_self (by rw [h.1]; exact hil)], Kd.R_lower (Kd.R_mono (Kd.R_bound hu) (fun k hk => ⟨by have := hk.2.1; omega, ?_⟩)) hN⟩
      show (if W.heap.size ≤ k then j else f k) = j
      rw [if_pos hk.2.1]
  · obtain ⟨A, c, h1, h2⟩ := h.2.2 j y hy (by omega)
    exact ⟨A, c, by rw [List.getElem?_set_ne (by omega)]; exact h1, h2⟩
theorem mix_S {d2 : Kd α} {v : Value} (hsz : d2.sz = 2) (hM : ∀ (W : World) (base : Nat) (ok : Nat → Prop) (x : α) (u : Value), d.R e W base ok u (tl x) → d2.M W base ok x [hd x, u]) (HR : Kd.R (Kd.raw 2) e2 W N (fun _ => True) v ws)
    (h : Mix hd tl d e l w W N s l.length f ws) (hs : ∀ k, v.ownBlock = some k → k = s) : Kd.S d2 e2 W N (fun _ => True) v l := by
  obtain ⟨_, inner, ho, hr⟩ := HR
  refine ⟨f, fun _ _ => trivial, inner, ?_, ?_, fun j p hj => ?_⟩
  · rw [List.length_zipIdx, ← h.1]
    show W.ownsRow N e2 d2.sz v ws.length inner
    rw [hsz]; exact ho
  · show inner.length = l.zipIdx.length * d2.sz
    rw [hsz, List.length_zipIdx, ← h.1]; exact hr.1
  · show d2.M W N (fun k => (True ∧ some k ≠ v.ownBlock) ∧ f k = p.2) p.1 ((inner.drop (j * d2.sz)).take d2.sz)
    rw [List.getElem?_zipIdx, Nat.zero_add] at hj
    obtain ⟨x, hx, rfl⟩ := Option.map_eq_some_iff.1 hj
    obtain ⟨u, h1, h2⟩ := h.2.1 j x hx (List.getElem?_eq_some_iff.1 hx).1
    have hc := (hr.2 j _ h1).1
    rw [hsz]
    show d2.M W N _ x ((inner.drop (j * (Kd.raw 2).sz)).take (Kd.raw 2).sz)
    rw [hc]
    exact hM _ _ _ _ _ (Kd.R_mono h2 (fun k hk => ⟨⟨trivial, fun he => hk.1 (hs k he.symm)⟩, hk.2⟩))
theorem pick {γ δ : Type} : ∀ (l : List γ) (P : Nat → γ → δ → Prop), (∀ j x, l[j]? = some x → ∃ c, P j x c) → ∃ ws : List δ, ws.length = l.length ∧ ∀ j x, l[j]? = some x → ∃ c, ws[j]? = some c ∧ P j x c
  | [], P, h => ⟨[], rfl, fun j x hx => by simp at hx⟩
  | a :: t, P, h => by
    obtain ⟨c0, hc0⟩ := h 0 a rfl
    obtain ⟨ws, h1, h2⟩ := pick t (fun j => P (j + 1)) (fun j x hx => h (j + 1) x (by simpa using hx))
    refine ⟨c0 :: ws, by rw [List.length_cons, List.length_cons, h1], fun j x hx => ?_⟩
    cases j with
    | zero => obtain rfl := Option.some.inj hx; exact ⟨c0, rfl, hc0⟩
    | succ j => exact h2 j x (by simpa using hx)
theorem mix_start {d2 : Kd α} {A : Option Addr} {n : Nat} (hsz : d2.sz = 2) (hopen : ∀ (w : World) (x : α) (cs : List Value), d2.K w x cs → ∃ A1 c1, cs = [hd x, .slice A1 (tl x).length c1] ∧ (tl x).length ≤ c1 ∧ d.C w A1 (tl x).length (tl x)) (h : d2.C w A n l) :
    ∃ ws, ws.length = n ∧ (Kd.raw 2).C w A n ws ∧ ∀ (W : World) (N s : Nat) (f : Nat → Nat), Mix hd tl d e l w W N s 0 f ws := by
  obtain ⟨hn, hm, h⟩ := h
  rcases Nat.eq_zero_or_pos n with h0 | hp
  · subst h0
    have e0 : l = [] := List.eq_nil_of_length_eq_zero hn
    subst e0
    exact ⟨[], rfl, ⟨rfl, hm, fun h => absurd h (by omega)⟩, fun _ _ _ _ => ⟨rfl, fun j x hx => by simp at hx, fun j x hx => by simp at hx⟩⟩
  · obtain ⟨ad, hA, hc⟩ := h hp
    obtain ⟨ws, h1, h2⟩ := pick l (fun j x c => c.length = d2.sz ∧ d2.K w x c ∧ ∀ i u, c[i]? = some u → w.cell? (ad.add (j * d2.sz + i)) = some u) hc
    refine ⟨ws, h1.trans hn, ⟨h1.trans hn, hm, fun _ => ⟨ad, hA, fun j c hj => ?_⟩⟩, fun W N s f => ⟨h1, fun j x _ hj => absurd hj (by omega), fun j x hx _ => ?_⟩⟩
    · have hjl : j < l.length := by rw [← h1]; exact (List.getElem?_eq_some_iff.1 hj).1
      obtain ⟨c', g1, g2, g3, g4⟩ := h2 j l[j] (List.getElem?_eq_getElem hjl)
      rw [hj] at g1
      obtain rfl := Option.some.inj g1
      refine ⟨c, by rw [g2, hsz]; rfl, ⟨rfl, by rw [g2, hsz], d2.K_one g3⟩, fun i u hu => ?_⟩
      have := g4 i u hu
      rw [hsz] at this
      exact this
    · obtain ⟨c, g1, g2, g3, g4⟩ := h2 j x hx
      obtain ⟨A1, c1, rfl, g5, g6⟩ := hopen w x c g3
      exact ⟨A1, c1, g1, g5, g6⟩
theorem raw_len {v : Value} (HR : Kd.R (Kd.raw 2) e2 W N (fun _ => True) v ws) : ∃ A c, v = .slice A ws.length c ∧ ws.length ≤ c ∧ (0 < ws.length → ∃ g, A = some ⟨g, 0, none⟩) := by
  obtain ⟨A, c, rfl, hc, hC⟩ := Kd.R_reads HR
  refine ⟨A, c, rfl, hc, fun hp => ?_⟩
  obtain ⟨ad, rfl, _⟩ := hC.2.2 hp
  obtain ⟨g, rfl⟩ := Kd.R_head HR
  exact ⟨g, rfl⟩
/-- Element i's cells. -/
theorem raw_cells {n c : Nat} {a b : Value} (HR : Kd.R (Kd.raw 2) e2 W N (fun _ => True) (.slice (some ⟨s, 0, none⟩) n c) ws) (hi : i < n) (hw : ws[i]? = some [a, b]) :
    W.cell? ⟨s, i * 2, none⟩ = some a ∧ W.cell? ⟨s, i * 2 + 1, none⟩ = some b ∧ W.frozen? ⟨s, i * 2, none⟩ = false ∧ W.frozen? ⟨s, i * 2 + 1, none⟩ = false ∧ a.oneCell' = true ∧ b.oneCell' = true := by
  obtain ⟨cs, h1, h2, h3, h4⟩ := Kd.R_elem HR [] (i : Int) (by omega) (by omega)
  have hx : (ws.getD (Int.toNat (i : Int)) []) = [a, b] := by rw [Int.toNat_natCast, List.getD_eq_getElem?_getD, hw]; rfl
  rw [hx] at h2
  obtain ⟨rfl, _, h5⟩ := h2
  have e0 : Int.toNat (i : Int) = i := Int.toNat_natCast i
  rw [e0] at h3 h4
  exact ⟨h3 0 a rfl, h3 1 b rfl, h4 0, h4 1, h5 a (by simp), h5 b (by simp)⟩
theorem raw_put {n c : Nat} {a b u : Value} (HR : Kd.R (Kd.raw 2) e2 W N (fun _ => True) (.slice (some ⟨s, 0, none⟩) n c) ws) (hi : i < n) (hw : ws[i]? = some [a, b]) (hu : u.oneCell' = true) :
    Kd.R (Kd.raw 2) e2 (W.setCell ⟨s, i * 2 + 1, none⟩ u) N (fun _ => True) (.slice (some ⟨s, 0, none⟩) n c) (ws.set i [a, u]) := by
  obtain ⟨h1, h2, h3, h4, h5, h6⟩ := raw_cells HR hi hw
  have e0 : Int.toNat (i : Int) = i := Int.toNat_natCast i
  have := (Kd.R_seg HR (i : Int) (by omega) (by omega) (c := [a, b]) (seg := [u]) (j := 1) (x' := [a, u]) (okp := fun _ => False) rfl (fun j v hv => ?_) (by show 1 + 1 ≤ 2; omega) ⟨rfl, rfl, fun q hq => ?_⟩ (fun _ h => h.elim)).1
  · rw [e0] at this; exact this
  · rw [e0]
    match j, hv with
    | 0, hv => obtain rfl := Option.some.inj hv; exact h1
    | 1, hv => obtain rfl := Option.some.inj hv; exact h2
    | j + 2, hv => simp at hv
  · rcases List.mem_append.1 hq with hq | hq
    · rcases List.mem_append.1 hq with hq | hq
      · simp at hq; rw [hq]; exact h5
      · simp at hq; rw [hq]; exact hu
    · simp at hq
theorem clone63n (A0 : Option Addr) (c0 n : Nat) (l0 : List (List Value)) (w : World) (hn : l0.length = n) (hr0 : Kd.C (Kd.raw 2) w A0 n l0) (hl : n ≤ 100000) :
    Calls Try.prog 30 #[.slice A0 n c0] w fun e w' => ∃ (A : Option Addr) (c s : Nat), e = .returned (.slice A n c) ∧ n ≤ c ∧ (0 < n → A = some ⟨s, 0, none⟩ ∧ s < w'.heap.size) ∧ (∀ k, (Value.slice A n c).ownBlock = some k → k = s) ∧ w.heap.size ≤ s ∧ Kd.R (Kd.raw 2) 63 w' w.heap.size (fun _ => True) (.slice A n c) l0 ∧ Below w.heap.size w w' := by
  subst hn
  refine (clone63 A0 c0 l0 w hr0 hl).mono ?_
  rintro e w' ⟨v, rfl, h1, h2⟩
  obtain ⟨A, c, rfl, h3, h4⟩ := raw_len h1
  cases hA : A with
  | none => exact ⟨none, c, w.heap.size, rfl, h3, fun h => absurd (h4 h) (by rw [hA]; simp), fun k hk => by simp [Value.ownBlock] at hk, Nat.le_refl _, hA ▸ h1, h2⟩
  | some ad =>
    subst hA
    obtain ⟨g, rfl⟩ := Kd.R_head h1
    exact ⟨_, c, g, rfl, h3, fun _ => ⟨rfl, Kd.R_lt h1 g (by simp [Value.ownBlock])⟩, fun k hk => by simpa [Value.ownBlock] using hk.symm, Kd.R_base h1 g (by simp [Value.ownBlock]), h1, h2⟩
theorem clone61n (A0 : Option Addr) (c0 n : Nat) (l0 : List (List Value)) (w : World) (hn : l0.length = n) (hr0 : Kd.C (Kd.raw 2) w A0 n l0) (hl : n ≤ 100000) :
    Calls Try.prog 31 #[.slice A0 n c0] w fun e w' => ∃ (A : Option Addr) (c s : Nat), e = .returned (.slice A n c) ∧ n ≤ c ∧ (0 < n → A = some ⟨s, 0, none⟩ ∧ s < w'.heap.size) ∧ (∀ k, (Value.slice A n c).ownBlock = some k → k = s) ∧ w.heap.size ≤ s ∧ Kd.R (Kd.raw 2) 61 w' w.heap.size (fun _ => True) (.slice A n c) l0 ∧ Below w.heap.size w w' := by
  subst hn
  refine (clone61 A0 c0 l0 w hr0 hl).mono ?_
  rintro e w' ⟨v, rfl, h1, h2⟩
  obtain ⟨A, c, rfl, h3, h4⟩ := raw_len h1
  cases hA : A with
  | none => exact ⟨none, c, w.heap.size, rfl, h3, fun h => absurd (h4 h) (by rw [hA]; simp), fun k hk => by simp [Value.ownBlock] at hk, Nat.le_refl _, hA ▸ h1, h2⟩
  | some ad =>
    subst hA
    obtain ⟨g, rfl⟩ := Kd.R_head h1
    exact ⟨_, c, g, rfl, h3, fun _ => ⟨rfl, Kd.R_lt h1 g (by simp [Value.ownBlock])⟩, fun k hk => by simpa [Value.ownBlock] using hk.symm, Kd.R_base h1 g (by simp [Value.ownBlock]), h1, h2⟩
end
def enc72 (x : S72) : List Value := [.int .i64 x.f0, .int .i64 x.f1, .int .i64 x.f2, .int .i64 x.f3, .bool x.f4, .int .i64 x.f5, .int .u32 x.f6]
theorem clone72k (A0 : Option Addr) (c0 : Nat) (l0 : List S72) (w : World) (hr0 : Kd.C k72 w A0 l0.length l0) (hl : l0.length ≤ 100000) :
    Calls Try.prog 32 #[.slice A0 l0.length c0] w fun e w' => ∃ v0_ : Value, e = .returned v0_ ∧ Kd.R k72 72 w' w.heap.size (fun _ => True) v0_ l0 ∧ Below w.heap.size w w' := by
  have hml : (l0.map enc72).length = l0.length := List.length_map _
  have hC : Kd.C (Kd.raw 7) w A0 l0.length (l0.map enc72) := by
    obtain ⟨h1, h2, h3⟩ := hr0
    refine ⟨hml, h2, fun hp => ?_⟩
    obtain ⟨ad, hA, hc⟩ := h3 hp
    refine ⟨ad, hA, fun j p hj => ?_⟩
    rw [List.getElem?_map] at hj
    obtain ⟨x, hx, rfl⟩ := Option.map_eq_some_iff.1 hj
    obtain ⟨c, g1, g2, g3⟩ := hc j x hx
    obtain rfl := k72_open g2
    exact ⟨_, rfl, ⟨rfl, rfl, k72.K_one g2⟩, g3⟩
  have := clone72 A0 c0 (l0.map enc72) w (by rw [hml]; exact hC) (by rw [hml]; exact hl)
  rw [hml] at this
  refine this.mono ?_
  rintro e w' ⟨v, rfl, h1, h2⟩
  refine ⟨v, rfl, ?_, h2⟩
  obtain ⟨h3, inner, ho, hr⟩ := h1
  refine ⟨h3, inner, by rw [hml] at ho; exact ho, ⟨by have := hr.1; rw [hml] at this; exact this, fun j x hj => ?_⟩⟩
  have h4 := (hr.2 j (enc72 x) (by rw [List.getElem?_map, hj]; rfl)).1
  show k72.M w' _ _ x ((inner.drop (j * (Kd.raw 7).sz)).take (Kd.raw 7).sz)
  rw [h4]
  exact k72_mkM _ _ _ x
end Go.Proofs.Ytlboachgeepadaa.P
