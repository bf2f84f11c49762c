/- The element of an array of four, or five, at an index: its value, and the cell that holds it. -/
import Derived.Test.YtipnfcicpnmggaaPx0
namespace Go.Proofs.Ytipnfcicpnmggaa.P
open Go.RowKit Go.Proofs.YtipnfcicpnmggaaW.PrintWords Go.Proofs.YtipnfcicpnmggaaW.PrintLast Go.Proofs.YtipnfcicpnmggaaW.PrintMore
def sel4I (a b c d j : Int) : Int := if j = 0 then a else if j = 1 then b else if j = 2 then c else d
def sel5I (a b c d f j : Int) : Int := if j = 0 then a else if j = 1 then b else if j = 2 then c else if j = 3 then d else f
def sel4B (a b c d : Bool) (j : Int) : Bool := if j = 0 then a else if j = 1 then b else if j = 2 then c else d
def sel5B (a b c d f : Bool) (j : Int) : Bool := if j = 0 then a else if j = 1 then b else if j = 2 then c else if j = 3 then d else f
theorem blk_sel4I {w : World} {g o : Nat} {t : TypeId} {cs : Array Value} {a b c d j : Int} (h : w.heap[g]? = some (.cells cs t (0, 0))) (ha : cs[o]? = some (.int .i64 a)) (hb : cs[o + 1]? = some (.int .i64 b)) (hc : cs[o + 2]? = some (.int .i64 c)) (hd : cs[o + 3]? = some (.int .i64 d)) (h0 : 0 ≤ j) (h1 : j < 4) : w.cell? ⟨g, o + j.toNat, none⟩ = some (.int .i64 (sel4I a b c d j)) := by
  rw [blk_cell h]
  obtain rfl | rfl | rfl | rfl : j = 0 ∨ j = 1 ∨ j = 2 ∨ j = 3 := by omega
  · exact ha
  · exact hb
  · exact hc
  · exact hd
theorem blk_sel4I0 {w : World} {g : Nat} {t : TypeId} {cs : Array Value} {a b c d j : Int} (h : w.heap[g]? = some (.cells cs t (0, 0))) (ha : cs[0]? = some (.int .i64 a)) (hb : cs[1]? = some (.int .i64 b)) (hc : cs[2]? = some (.int .i64 c)) (hd : cs[3]? = some (.int .i64 d)) (h0 : 0 ≤ j) (h1 : j < 4) : w.cell? ⟨g, j.toNat, none⟩ = some (.int .i64 (sel4I a b c d j)) := by
  have := blk_sel4I (o := 0) h ha hb hc hd h0 h1
  rwa [Nat.zero_add] at this
theorem blk_sel5I {w : World} {g o : Nat} {t : TypeId} {cs : Array Value} {a b c d f j : Int} (h : w.heap[g]? = some (.cells cs t (0, 0))) (ha : cs[o]? = some (.int .i64 a)) (hb : cs[o + 1]? = some (.int .i64 b)) (hc : cs[o + 2]? = some (.int .i64 c)) (hd : cs[o + 3]? = some (.int .i64 d)) (hf : cs[o + 4]? = some (.int .i64 f)) (h0 : 0 ≤ j) (h1 : j < 5) : w.cell? ⟨g, o + j.toNat, none⟩ = some (.int .i64 (sel5I a b c d f j)) := by
  rw [blk_cell h]
  obtain rfl | rfl | rfl | rfl | rfl : j = 0 ∨ j = 1 ∨ j = 2 ∨ j = 3 ∨ j = 4 := by omega
  · exact ha
  · exact hb
  · exact hc
  · exact hd
  · exact hf
theorem blk_sel5I0 {w : World} {g : Nat} {t : TypeId} {cs : Array Value} {a b c d f j : Int} (h : w.heap[g]? = some (.cells cs t (0, 0))) (ha : cs[0]? = some (.int .i64 a)) (hb : cs[1]? = some (.int .i64 b)) (hc : cs[2]? = some (.int .i64 c)) (hd : cs[3]? = some (.int .i64 d)) (hf : cs[4]? = some (.int .i64 f)) (h0 : 0 ≤ j) (h1 : j < 5) : w.cell? ⟨g, j.toNat, none⟩ = some (.int .i64 (sel5I a b c d f j)) := by
  have := blk_sel5I (o := 0) h ha hb hc hd hf h0 h1
  rwa [Nat.zero_add] at this
theorem blk_sel4B {w : World} {g o : Nat} {t : TypeId} {cs : Array Value} {a b c d : Bool} {j : Int} (h : w.heap[g]? = some (.cells cs t (0, 0))) (ha : cs[o]? = some (.bool a)) (hb : cs[o + 1]? = some (.bool b)) (hc : cs[o + 2]? = some (.bool c)) (hd : cs[o + 3]? = some (.bool d)) (h0 : 0 ≤ j) (h1 : j < 4) : w.cell? ⟨g, o + j.toNat, none⟩ = some (.bool (sel4B a b c d j)) := by
  rw [blk_cell h]
  obtain rfl | rfl | rfl | rfl : j = 0 ∨ j = 1 ∨ j = 2 ∨ j = 3 := by omega
  · exact ha
  · exact hb
  · exact hc
  · exact hd
theorem blk_sel4B0 {w : World} {g : Nat} {t : TypeId} {cs : Array Value} {a b c d : Bool} {j : Int} (h : w.heap[g]? = some (.cells cs t (0, 0))) (ha : cs[0]? = some (.bool a)) (hb : cs[1]? = some (.bool b)) (hc : cs[2]? = some (.bool c)) (hd : cs[3]? = some (.bool d)) (h0 : 0 ≤ j) (h1 : j < 4) : w.cell? ⟨g, j.toNat, none⟩ = some (.bool (sel4B a b c d j)) := by
  have := blk_sel4B (o := 0) h ha hb hc hd h0 h1
  rwa [Nat.zero_add] at this
def updI (q : Int) (j y old : Int) : Int := if j = q then y else old
theorem set_same {cs : Array Value} {i : Nat} {v : Value} (h : cs[i]? = some v) : cs.setIfInBounds i v = cs := by
  apply Array.ext_getElem?
  intro k
  rw [Array.getElem?_setIfInBounds]
  split
  · next hk => subst hk; split <;> simp_all
  · rfl
theorem blk_upd4I {w : World} {g o : Nat} {t : TypeId} {cs cs' : Array Value} {a b c d j y : Int} (h : w.heap[g]? = some (.cells cs t (0, 0))) (ha : cs[o]? = some (.int .i64 a)) (hb : cs[o + 1]? = some (.int .i64 b)) (hc : cs[o + 2]? = some (.int .i64 c)) (hd : cs[o + 3]? = some (.int .i64 d)) (h0 : 0 ≤ j) (h1 : j < 4)
    (e : (((cs.setIfInBounds o (.int .i64 (updI 0 j y a))).setIfInBounds (o + 1) (.int .i64 (updI 1 j y b))).setIfInBounds (o + 2) (.int .i64 (updI 2 j y c))).setIfInBounds (o + 3) (.int .i64 (updI 3 j y d)) = cs') : (w.setCell ⟨g, o + j.toNat, none⟩ (.int .i64 y)).heap[g]? = some (.cells cs' t (0, 0)) := by
  refine blk_put h _ _ (Eq.trans ?_ e)
  have g1 : ∀ u : Value, (cs.setIfInBounds o u)[o + 1]? = cs[o + 1]? := fun u => Array.getElem?_setIfInBounds_ne (by omega)
  have g2 : ∀ u : Value, (cs.setIfInBounds o u)[o + 2]? = cs[o + 2]? := fun u => Array.getElem?_setIfInBounds_ne (by omega)
  have g3 : ∀ u : Value, (cs.setIfInBounds o u)[o + 3]? = cs[o + 3]? := fun u => Array.getElem?_setIfInBounds_ne (by omega)
  have g12 : ∀ u : Value, (cs.setIfInBounds (o + 1) u)[o + 2]? = cs[o + 2]? := fun u => Array.getElem?_setIfInBounds_ne (by omega)
  have g13 : ∀ u : Value, (cs.setIfInBounds (o + 1) u)[o + 3]? = cs[o + 3]? := fun u => Array.getElem?_setIfInBounds_ne (by omega)
  have g23 : ∀ u : Value, (cs.setIfInBounds (o + 2) u)[o + 3]? = cs[o + 3]? := fun u => Array.getElem?_setIfInBounds_ne (by omega)
  obtain rfl | rfl | rfl | rfl : j = 0 ∨ j = 1 ∨ j = 2 ∨ j = 3 := by omega
  · show cs.setIfInBounds o _ = (((cs.setIfInBounds o (.int .i64 y)).setIfInBounds (o + 1) (.int .i64 b)).setIfInBounds (o + 2) (.int .i64 c)).setIfInBounds (o + 3) (.int .i64 d)
    rw [set_same ((g1 _).trans hb), set_same ((g2 _).trans hc), set_same ((g3 _).trans hd)]
  · show cs.setIfInBounds (o + 1) _ = (((cs.setIfInBounds o (.int .i64 a)).setIfInBounds (o + 1) (.int .i64 y)).setIfInBounds (o + 2) (.int .i64 c)).setIfInBounds (o + 3) (.int .i64 d)
    rw [set_same ha, set_same ((g12 _).trans hc), set_same ((g13 _).trans hd)]
  · show cs.setIfInBounds (o + 2) _ = (((cs.setIfInBounds o (.int .i64 a)).setIfInBounds (o + 1) (.int .i64 b)).setIfInBounds (o + 2) (.int .i64 y)).setIfInBounds (o + 3) (.int .i64 d)
    rw [set_same ha, set_same hb, set_same ((g23 _).trans hd)]
  · show cs.setIfInBounds (o + 3) _ = (((cs.setIfInBounds o (.int .i64 a)).setIfInBounds (o + 1) (.int .i64 b)).setIfInBounds (o + 2) (.int .i64 c)).setIfInBounds (o + 3) (.int .i64 y)
    rw [set_same ha, set_same hb, set_same hc]
theorem blk_upd4I0 {w : World} {g : Nat} {t : TypeId} {cs cs' : Array Value} {a b c d j y : Int} (h : w.heap[g]? = some (.cells cs t (0, 0))) (ha : cs[0]? = some (.int .i64 a)) (hb : cs[1]? = some (.int .i64 b)) (hc : cs[2]? = some (.int .i64 c)) (hd : cs[3]? = some (.int .i64 d)) (h0 : 0 ≤ j) (h1 : j < 4)
    (e : (((cs.setIfInBounds 0 (.int .i64 (updI 0 j y a))).setIfInBounds 1 (.int .i64 (updI 1 j y b))).setIfInBounds 2 (.int .i64 (updI 2 j y c))).setIfInBounds 3 (.int .i64 (updI 3 j y d)) = cs') : (w.setCell ⟨g, j.toNat, none⟩ (.int .i64 y)).heap[g]? = some (.cells cs' t (0, 0)) := by
  have := blk_upd4I (o := 0) h ha hb hc hd h0 h1 e
  rwa [Nat.zero_add] at this
end Go.Proofs.Ytipnfcicpnmggaa.P
