/- Values of the program's api.Value, as Lean data, and how they lie in memory. -/
import Derived.Below
import Derived.Laws.OwnMore
import Derived.Deep.Draws
import Derived.Laws.Rows
import Derived.Lib.Hide
namespace Nh
open Go Go.RowKit

/-- api.Value. -/
inductive V where
  | mk (kind : Int) (text : ByteArray) (int : Int) (real : Nat) (flag : Bool) (list : List V)

namespace V
def kind : V → Int | mk k _ _ _ _ _ => k
def text : V → ByteArray | mk _ t _ _ _ _ => t
def int : V → Int | mk _ _ n _ _ _ => n
def real : V → Nat | mk _ _ _ r _ _ => r
def flag : V → Bool | mk _ _ _ _ b _ => b
def list : V → List V | mk _ _ _ _ _ l => l
end V

/-- The six cells of a value. -/
def cells6 (k : Int) (t : ByteArray) (n : Int) (r : Nat) (b : Bool) (s : Value) : Array Value :=
  #[.int .i64 k, .string t, .int .i64 n, .float .f64 r, .bool b, s]

/-- A value's cells: its own, and its list's, wherever these lie; 'ok' says which blocks they may lie in. -/
def Rd (w : World) (ok : Nat → Prop) : V → Array Value → Prop
  | .mk k t n r b l, cs => ∃ (a : Option Addr) (cap : Nat), cs = cells6 k t n r b (.slice a l.length cap) ∧ l.length ≤ cap ∧ cap ≤ maxLen ∧
      ∀ (i : Nat) (h : i < l.length), ∃ (g o : Nat) (e : Array Value), a = some ⟨g, o, none⟩ ∧ ok g ∧ e.size = 6 ∧
        (∀ j, j < 6 → w.cell? ⟨g, o + i * 6 + j, none⟩ = e[j]?) ∧ Rd w ok l[i] e
termination_by v => sizeOf v
decreasing_by
  have := List.sizeOf_lt_of_mem (List.getElem_mem h)
  simp; omega

/-- A list of values, as a slice's elements. -/
def RdL (w : World) (ok : Nat → Prop) (a : Option Addr) (l : List V) : Prop :=
  ∀ (i : Nat) (h : i < l.length), ∃ (g o : Nat) (e : Array Value), a = some ⟨g, o, none⟩ ∧ ok g ∧ e.size = 6 ∧
    (∀ j, j < 6 → w.cell? ⟨g, o + i * 6 + j, none⟩ = e[j]?) ∧ Rd w ok l[i] e

theorem rd_iff {w : World} {ok : Nat → Prop} {v : V} {cs : Array Value} : Rd w ok v cs ↔
    ∃ (a : Option Addr) (cap : Nat), cs = cells6 v.kind v.text v.int v.real v.flag (.slice a v.list.length cap) ∧ v.list.length ≤ cap ∧ cap ≤ maxLen ∧ RdL w ok a v.list := by
  cases v with
  | mk k t n r b l =>
    rw [Rd]
    rfl

theorem cell_lt {w : World} {g o : Nat} {v : Value} (h : w.cell? ⟨g, o, none⟩ = some v) : g < w.heap.size := by
  rcases Nat.lt_or_ge g w.heap.size with h' | h'
  · exact h'
  · simp [World.cell?, Array.getElem?_eq_none h'] at h

/-- What keeps the blocks that may be met keeps the reading. -/
theorem Rd.keep {w w' : World} {ok ok' : Nat → Prop} (hk : ∀ g, ok g → g < w.heap.size → w'.heap[g]? = w.heap[g]?) (ho : ∀ g, ok g → g < w.heap.size → ok' g) :
    ∀ (v : V) (cs : Array Value), Rd w ok v cs → Rd w' ok' v cs := by
  intro v
  induction hn : sizeOf v using Nat.strongRecOn generalizing v with
  | _ n ih =>
    intro cs h
    cases v with
    | mk k t m r b l =>
      rw [Rd] at h ⊢
      obtain ⟨a, cap, hcs, hl, hm, hi⟩ := h
      refine ⟨a, cap, hcs, hl, hm, fun i hil => ?_⟩
      obtain ⟨g, o, e, ha, hok, hes, hc, hr⟩ := hi i hil
      have hg : g < w.heap.size := by
        have := hc 0 (by omega)
        rw [Array.getElem?_eq_getElem (by omega)] at this
        exact cell_lt this
      refine ⟨g, o, e, ha, ho g hok hg, hes, fun j hj => ?_, ?_⟩
      · rw [World.cell?_of_block (w := w) (hk g hok hg)]; exact hc j hj
      · refine ih (sizeOf l[i]) ?_ l[i] rfl e hr
        have := List.sizeOf_lt_of_mem (List.getElem_mem hil)
        simp at hn
        omega

theorem RdL.keep {w w' : World} {ok ok' : Nat → Prop} (hk : ∀ g, ok g → g < w.heap.size → w'.heap[g]? = w.heap[g]?) (ho : ∀ g, ok g → g < w.heap.size → ok' g)
    {a : Option Addr} {l : List V} (h : RdL w ok a l) : RdL w' ok' a l := by
  intro i hil
  obtain ⟨g, o, e, ha, hok, hes, hc, hr⟩ := h i hil
  have hg : g < w.heap.size := by
    have := hc 0 (by omega)
    rw [Array.getElem?_eq_getElem (by omega)] at this
    exact cell_lt this
  exact ⟨g, o, e, ha, ho g hok hg, hes, fun j hj => by rw [World.cell?_of_block (w := w) (hk g hok hg)]; exact hc j hj, Rd.keep hk ho _ _ hr⟩

theorem Rd.below {w w' : World} {ok : Nat → Prop} {v : V} {cs : Array Value} (h : Rd w ok v cs) (hb : Below w.heap.size w w') : Rd w' ok v cs :=
  Rd.keep (fun g _ hg => hb.block g hg) (fun _ h _ => h) v cs h
theorem RdL.below {w w' : World} {ok : Nat → Prop} {a : Option Addr} {l : List V} (h : RdL w ok a l) (hb : Below w.heap.size w w') : RdL w' ok a l :=
  RdL.keep (fun g _ hg => hb.block g hg) (fun _ h _ => h) h
theorem Rd.weaken {w : World} {ok ok' : Nat → Prop} {v : V} {cs : Array Value} (h : Rd w ok v cs) (ho : ∀ g, ok g → g < w.heap.size → ok' g) : Rd w ok' v cs :=
  Rd.keep (fun _ _ _ => rfl) ho v cs h
theorem Rd.any {w : World} {ok : Nat → Prop} {v : V} {cs : Array Value} (h : Rd w ok v cs) : Rd w (fun _ => True) v cs := h.weaken fun _ _ _ => trivial
theorem Rd.size {w : World} {ok : Nat → Prop} {v : V} {cs : Array Value} (h : Rd w ok v cs) : cs.size = 6 := by
  obtain ⟨a, cap, rfl, _⟩ := rd_iff.1 h; rfl

/-- A value without a list lies nowhere. -/
theorem rd_flat (w : World) (ok : Nat → Prop) (k : Int) (t : ByteArray) (n : Int) (r : Nat) (b : Bool) : Rd w ok (.mk k t n r b []) (cells6 k t n r b (.slice none 0 0)) := by
  rw [Rd]
  exact ⟨none, 0, rfl, Nat.le_refl _, by simp, fun i h => by simp at h⟩

/-- How many there are in it. -/
def V.count : V → Nat
  | .mk _ _ _ _ _ l => 1 + (l.map V.count).sum
theorem count_eq (v : V) : v.count = 1 + (v.list.map V.count).sum := by
  cases v; rw [V.count]; rfl
theorem count_pos (v : V) : 0 < v.count := by rw [count_eq]; omega
theorem sum_mem {l : List Nat} {n : Nat} (h : n ∈ l) : n ≤ l.sum := by
  induction l with
  | nil => simp at h
  | cons a r ih =>
    simp at h ⊢
    rcases h with rfl | h
    · omega
    · have := ih h; omega
theorem count_mem {v x : V} (h : x ∈ v.list) : x.count < v.count := by
  rw [count_eq v]
  have := sum_mem (List.mem_map.2 ⟨x, h, rfl⟩ : x.count ∈ v.list.map V.count)
  omega

/-- What is added up by the first k. -/
def cnt (l : List V) (k : Nat) : Nat := ((l.take k).map V.count).sum
theorem cnt_zero (l : List V) : cnt l 0 = 0 := by simp [cnt]
theorem cnt_succ (l : List V) (k : Nat) (h : k < l.length) : cnt l (k + 1) = cnt l k + l[k].count := by
  unfold cnt
  rw [List.take_succ_eq_append_getElem h, List.map_append, List.sum_append]; simp
theorem cnt_all (l : List V) : cnt l l.length = (l.map V.count).sum := by unfold cnt; rw [List.take_length]
theorem cnt_le (l : List V) (k : Nat) : cnt l k ≤ (l.map V.count).sum := by
  unfold cnt
  have : (l.map V.count).sum = ((l.take k).map V.count).sum + ((l.drop k).map V.count).sum := by
    rw [← List.sum_append, ← List.map_append, List.take_append_drop]
  omega
end Nh
