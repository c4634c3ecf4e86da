/- ItemNames: one closed run, function by function. -/
import Derived.Test.YtfadhcljmnilkaaGreatDoorBits
import Derived.Test.YtfadhcljmnilkaaGreatDoorEnv
namespace Go.Proofs.YtfadhcljmnilkaaGreatDoor
open Go.RowKit Nh


set_option maxRecDepth 100000 in
theorem bsearch_empty (t : ByteArray) (w : World) :
    Calls Tryz.prog 165 #[.slice none 0 0, .agg #[.string t, .string ⟨#[]⟩], .func (.func 166) #[] #[]] w fun e w' => e = .returned (.tuple #[.int .i64 0, .bool false]) ∧ Below w.heap.size w w' := by
  go_enter Tryz.func165, Tryz.ntmps165
  go_wp2
  refine wp_loop_once ?_
  go_wp2
  go_quiet (fail)
  go_wp2
  go_ret2
  exact ⟨rfl, below_drewN ((Below.refl _ _).alloc (Nat.le_refl _) _) _⟩

set_option maxRecDepth 100000 in
theorem insert_empty (b : Nat) (f v : ByteArray) (w : World) (h0 : w.cell? ⟨b, 0, none⟩ = some (.string f)) (h1 : w.cell? ⟨b, 1, none⟩ = some (.string v)) :
    Calls Tryz.prog 107 #[.slice none 0 0, .int .i64 0, .slice (some ⟨b, 0, none⟩) 1 1] w fun e w' => ∃ c : Nat, e = .returned (.slice (some ⟨w.heap.size, 0, none⟩) 1 c) ∧ w'.cell? ⟨w.heap.size, 0, none⟩ = some (.string f) ∧ w'.cell? ⟨w.heap.size, 1, none⟩ = some (.string v) ∧ Below w.heap.size w w' := by
  go_enter Tryz.func107, Tryz.ntmps107
  go_wp2
  go_ret
  refine ⟨_, rfl, ?_, ?_, ?_⟩
  · simp [Array.getElem?_append]
  · simp [Array.getElem?_append]
  · exact ((Below.refl _ _).drew).alloc (Nat.le_refl _) _

theorem eq45_nil (w : World) : (binOp .eql 45 (.slice none 0 0) (.slice none 0 0)).run Tryz.prog w = .ok (.bool true) w := by kernel_rfl
theorem eq45_some (a : Addr) (n c : Nat) (w : World) : (binOp .eql 45 (.slice (some a) n c) (.slice none 0 0)).run Tryz.prog w = .ok (.bool false) w := by kernel_rfl
section
attribute [local go_sem] eq45_nil eq45_some
set_option maxRecDepth 100000 in
theorem clone_nil (w : World) :
    Calls Tryz.prog 106 #[.slice none 0 0] w fun e w' => e = .returned (.slice none 0 0) ∧ w' = w := by
  go_enter Tryz.func106, Tryz.ntmps106
  go_wp2
  go_ret
  exact ⟨rfl, rfl⟩
theorem cell_other {w : World} {g k h j : Nat} {v : Value} (hn : g ≠ h) : (w.setCell ⟨g, k, none⟩ v).cell? ⟨h, j, none⟩ = w.cell? ⟨h, j, none⟩ :=
  World.cell?_setCell_other w _ _ _ (fun e => hn (congrArg Addr.block e))
theorem cell_alloc {w : World} {g k : Nat} {v : Value} (h : w.cell? ⟨g, k, none⟩ = some v) (o : Obj) : (w.alloc o).cell? ⟨g, k, none⟩ = some v :=
  (World.cell?_of_block (Below.heap_alloc _ _ _ (cell_lt h))).trans h
set_option maxRecDepth 100000 in
theorem clone_one (b c : Nat) (f v : ByteArray) (w : World) (h0 : w.cell? ⟨b, 0, none⟩ = some (.string f)) (h1 : w.cell? ⟨b, 1, none⟩ = some (.string v)) :
    Calls Tryz.prog 106 #[.slice (some ⟨b, 0, none⟩) 1 c] w fun e w' => ∃ a n c, e = .returned (.slice (some a) n c) ∧ Below w.heap.size w w' := by
  have h2 := cell_alloc h0 (Obj.cells #[] 120)
  have h3 := cell_alloc h1 (Obj.cells #[] 120)
  go_enter Tryz.func106, Tryz.ntmps106
  go_wp2
  go_ret
  exact ⟨_, _, _, rfl, (((Below.refl _ _).alloc (Nat.le_refl _) _).drew).alloc (by simp) _⟩

set_option maxRecDepth 100000 in
theorem field_one (w : World) :
    Calls Tryz.prog 105 #[.agg #[.string ⟨#[102]⟩, .string ⟨#[118]⟩]] w fun e w' => e = .returned (.bool true) ∧ Below w.heap.size w w' := by
  go_enter Tryz.func105, Tryz.ntmps105
  go_wp2
  go_ret
  exact ⟨rfl, (Below.refl _ _).alloc (Nat.le_refl _) _⟩

set_option maxRecDepth 100000 in
theorem at_empty (t : ByteArray) (w : World) :
    Calls Tryz.prog 104 #[.agg #[.int .i64 0, .string ⟨#[]⟩, .slice none 0 0], .string t] w fun e w' => e = .returned (.tuple #[.int .i64 0, .bool false]) ∧ Below w.heap.size w w' := by
  go_enter Tryz.func104, Tryz.ntmps104
  go_wp2_with fail
  refine (bsearch_empty t _).mono ?_
  rintro e w1 ⟨rfl, hb1⟩
  go_wp2
  go_ret2
  exact ⟨rfl, ((Below.refl _ _).alloc (Nat.le_refl _) _).trans (hb1.mono (by simp))⟩

set_option maxRecDepth 100000 in
theorem copy_one (b c : Nat) (f v : ByteArray) (w : World) (h0 : w.cell? ⟨b, 0, none⟩ = some (.string f)) (h1 : w.cell? ⟨b, 1, none⟩ = some (.string v)) :
    Calls Tryz.prog 71 #[.agg #[.int .i64 2, .string ⟨#[]⟩, .slice (some ⟨b, 0, none⟩) 1 c]] w fun e w' => ∃ a n d, e = .returned (.agg #[.int .i64 2, .string ⟨#[]⟩, .slice (some a) n d]) ∧ Below w.heap.size w w' := by
  go_enter Tryz.func71, Tryz.ntmps71
  go_wp2_with fail
  refine (clone_one b c f v _ (cell_alloc (cell_alloc h0 _) _) (cell_alloc (cell_alloc h1 _) _)).mono ?_
  rintro e w1 ⟨a, n, d, rfl, hb1⟩
  have kc1 := Below.cell hb1 (p := ⟨w.heap.size, 0, none⟩) (by simp <;> omega)
  have kf1 := Below.frozen hb1 (p := ⟨w.heap.size, 0, none⟩) (by simp <;> omega)
  try simp at kc1
  try simp at kf1
  have kc2 := Below.cell hb1 (p := ⟨w.heap.size, 1, none⟩) (by simp <;> omega)
  have kf2 := Below.frozen hb1 (p := ⟨w.heap.size, 1, none⟩) (by simp <;> omega)
  try simp at kc2
  try simp at kf2
  have kc3 := Below.cell hb1 (p := ⟨w.heap.size, 2, none⟩) (by simp <;> omega)
  have kf3 := Below.frozen hb1 (p := ⟨w.heap.size, 2, none⟩) (by simp <;> omega)
  try simp at kc3
  try simp at kf3
  have kc4 := Below.cell hb1 (p := ⟨w.heap.size + 1, 0, none⟩) (by simp <;> omega)
  have kf4 := Below.frozen hb1 (p := ⟨w.heap.size + 1, 0, none⟩) (by simp <;> omega)
  try simp at kc4
  try simp at kf4
  have kc5 := Below.cell hb1 (p := ⟨w.heap.size + 1, 1, none⟩) (by simp <;> omega)
  have kf5 := Below.frozen hb1 (p := ⟨w.heap.size + 1, 1, none⟩) (by simp <;> omega)
  try simp at kc5
  try simp at kf5
  have kc6 := Below.cell hb1 (p := ⟨w.heap.size + 1, 2, none⟩) (by simp <;> omega)
  have kf6 := Below.frozen hb1 (p := ⟨w.heap.size + 1, 2, none⟩) (by simp <;> omega)
  try simp at kc6
  try simp at kf6
  go_wp2
  have hb2 : Below w.heap.size w w1 := (((Below.refl _ _).alloc (Nat.le_refl _) _).alloc (by simp) _).trans (hb1.mono (by simp; omega))
  refine bodyPost_ret (v := .agg #[.int .i64 2, .string ⟨#[]⟩, .slice (some a) n d]) (by simp [results, Tryz.results71, go_sem, *]) rfl ⟨_, _, _, rfl, ?_⟩
  exact (((hb2.setCell (by simp) _).setCell (by simp) _).setCell (by simp) _).setCell (by simp) _
end

set_option maxHeartbeats 1600000 in
set_option maxRecDepth 100000 in
theorem put_one (w : World) :
    Calls Tryz.prog 44 #[.agg #[.int .i64 0, .string ⟨#[]⟩, .slice none 0 0], .string ⟨#[102]⟩, .string ⟨#[118]⟩] w fun e w' => ∃ b c : Nat, e = .returned (.tuple #[.agg #[.int .i64 2, .string ⟨#[]⟩, .slice (some ⟨b, 0, none⟩) 1 c], .bool true, .int .i64 0])
      ∧ w'.cell? ⟨b, 0, none⟩ = some (.string ⟨#[102]⟩) ∧ w'.cell? ⟨b, 1, none⟩ = some (.string ⟨#[118]⟩) ∧ Below w.heap.size w w' := by
  go_enter Tryz.func44, Tryz.ntmps44
  go_wp2_with fail
  refine (at_empty _ _).mono ?_
  rintro e w1 ⟨rfl, hb1⟩
  have kc7 := Below.cell hb1 (p := ⟨w.heap.size, 0, none⟩) (by simp <;> omega)
  have kf7 := Below.frozen hb1 (p := ⟨w.heap.size, 0, none⟩) (by simp <;> omega)
  try simp at kc7
  try simp at kf7
  have kc8 := Below.cell hb1 (p := ⟨w.heap.size, 1, none⟩) (by simp <;> omega)
  have kf8 := Below.frozen hb1 (p := ⟨w.heap.size, 1, none⟩) (by simp <;> omega)
  try simp at kc8
  try simp at kf8
  have kc9 := Below.cell hb1 (p := ⟨w.heap.size, 2, none⟩) (by simp <;> omega)
  have kf9 := Below.frozen hb1 (p := ⟨w.heap.size, 2, none⟩) (by simp <;> omega)
  try simp at kc9
  try simp at kf9
  have kc10 := Below.cell hb1 (p := ⟨w.heap.size + 1, 0, none⟩) (by simp <;> omega)
  have kf10 := Below.frozen hb1 (p := ⟨w.heap.size + 1, 0, none⟩) (by simp <;> omega)
  try simp at kc10
  try simp at kf10
  have kc11 := Below.cell hb1 (p := ⟨w.heap.size + 1, 1, none⟩) (by simp <;> omega)
  have kf11 := Below.frozen hb1 (p := ⟨w.heap.size + 1, 1, none⟩) (by simp <;> omega)
  try simp at kc11
  try simp at kf11
  have kc12 := Below.cell hb1 (p := ⟨w.heap.size + 1, 2, none⟩) (by simp <;> omega)
  have kf12 := Below.frozen hb1 (p := ⟨w.heap.size + 1, 2, none⟩) (by simp <;> omega)
  try simp at kc12
  try simp at kf12
  have kc13 := Below.cell hb1 (p := ⟨w.heap.size + 1 + 1, 0, none⟩) (by simp <;> omega)
  have kf13 := Below.frozen hb1 (p := ⟨w.heap.size + 1 + 1, 0, none⟩) (by simp <;> omega)
  try simp at kc13
  try simp at kf13
  have kc14 := Below.cell hb1 (p := ⟨w.heap.size + 1 + 1, 1, none⟩) (by simp <;> omega)
  have kf14 := Below.frozen hb1 (p := ⟨w.heap.size + 1 + 1, 1, none⟩) (by simp <;> omega)
  try simp at kc14
  try simp at kf14
  go_wp2_with fail
  refine (field_one _).mono ?_
  rintro e w2 ⟨rfl, hb2⟩
  have hb12 := hb1.trans (hb2.mono hb1.size)
  have kc15 := Below.cell hb12 (p := ⟨w.heap.size, 0, none⟩) (by simp <;> omega)
  have kf15 := Below.frozen hb12 (p := ⟨w.heap.size, 0, none⟩) (by simp <;> omega)
  try simp at kc15
  try simp at kf15
  have kc16 := Below.cell hb12 (p := ⟨w.heap.size, 1, none⟩) (by simp <;> omega)
  have kf16 := Below.frozen hb12 (p := ⟨w.heap.size, 1, none⟩) (by simp <;> omega)
  try simp at kc16
  try simp at kf16
  have kc17 := Below.cell hb12 (p := ⟨w.heap.size, 2, none⟩) (by simp <;> omega)
  have kf17 := Below.frozen hb12 (p := ⟨w.heap.size, 2, none⟩) (by simp <;> omega)
  try simp at kc17
  try simp at kf17
  have kc18 := Below.cell hb12 (p := ⟨w.heap.size + 1, 0, none⟩) (by simp <;> omega)
  have kf18 := Below.frozen hb12 (p := ⟨w.heap.size + 1, 0, none⟩) (by simp <;> omega)
  try simp at kc18
  try simp at kf18
  have kc19 := Below.cell hb12 (p := ⟨w.heap.size + 1, 1, none⟩) (by simp <;> omega)
  have kf19 := Below.frozen hb12 (p := ⟨w.heap.size + 1, 1, none⟩) (by simp <;> omega)
  try simp at kc19
  try simp at kf19
  have kc20 := Below.cell hb12 (p := ⟨w.heap.size + 1, 2, none⟩) (by simp <;> omega)
  have kf20 := Below.frozen hb12 (p := ⟨w.heap.size + 1, 2, none⟩) (by simp <;> omega)
  try simp at kc20
  try simp at kf20
  have kc21 := Below.cell hb12 (p := ⟨w.heap.size + 1 + 1, 0, none⟩) (by simp <;> omega)
  have kf21 := Below.frozen hb12 (p := ⟨w.heap.size + 1 + 1, 0, none⟩) (by simp <;> omega)
  try simp at kc21
  try simp at kf21
  have kc22 := Below.cell hb12 (p := ⟨w.heap.size + 1 + 1, 1, none⟩) (by simp <;> omega)
  have kf22 := Below.frozen hb12 (p := ⟨w.heap.size + 1 + 1, 1, none⟩) (by simp <;> omega)
  try simp at kc22
  try simp at kf22
  go_wp2_with fail
  refine (clone_nil _).mono ?_
  rintro e w3 ⟨rfl, rfl⟩
  have hsz : w.heap.size + 1 + 1 < w3.heap.size := by have := hb12.size; simp at this; omega
  have hb13 := hb12.alloc hb12.size (Obj.cells #[Value.int IntKind.i64 2, Value.string { data := #[] }, Value.slice none 0 0] 47)
  have kc23 := Below.cell hb13 (p := ⟨w.heap.size + 1 + 1, 0, none⟩) (by simp <;> omega)
  have kf23 := Below.frozen hb13 (p := ⟨w.heap.size + 1 + 1, 0, none⟩) (by simp <;> omega)
  try simp at kc23
  try simp at kf23
  have kc24 := Below.cell hb13 (p := ⟨w.heap.size + 1 + 1, 1, none⟩) (by simp <;> omega)
  have kf24 := Below.frozen hb13 (p := ⟨w.heap.size + 1 + 1, 1, none⟩) (by simp <;> omega)
  try simp at kc24
  try simp at kf24
  go_wp2_with fail
  refine (insert_empty (w3.heap.size + 1) ⟨#[102]⟩ ⟨#[118]⟩ _ (by simp [go_sem]) (by simp [go_sem])).mono ?_
  rintro e w4 ⟨c, rfl, hc0, hc1, hb4⟩
  have hb14 := hb13.trans (((Below.refl _ _).alloc (by simp; omega) _).trans (hb4.mono (by simp; omega)))
  have kc25 := Below.cell hb4 (p := ⟨w3.heap.size, 0, none⟩) (by simp <;> omega)
  have kf25 := Below.frozen hb4 (p := ⟨w3.heap.size, 0, none⟩) (by simp <;> omega)
  try simp at kc25
  try simp at kf25
  have kc26 := Below.cell hb4 (p := ⟨w3.heap.size, 1, none⟩) (by simp <;> omega)
  have kf26 := Below.frozen hb4 (p := ⟨w3.heap.size, 1, none⟩) (by simp <;> omega)
  try simp at kc26
  try simp at kf26
  have kc27 := Below.cell hb4 (p := ⟨w3.heap.size, 2, none⟩) (by simp <;> omega)
  have kf27 := Below.frozen hb4 (p := ⟨w3.heap.size, 2, none⟩) (by simp <;> omega)
  try simp at kc27
  try simp at kf27
  have kc28 := Below.cell hb14 (p := ⟨w.heap.size + 1, 0, none⟩) (by simp <;> omega)
  have kf28 := Below.frozen hb14 (p := ⟨w.heap.size + 1, 0, none⟩) (by simp <;> omega)
  try simp at kc28
  try simp at kf28
  have kc29 := Below.cell hb14 (p := ⟨w.heap.size + 1, 1, none⟩) (by simp <;> omega)
  have kf29 := Below.frozen hb14 (p := ⟨w.heap.size + 1, 1, none⟩) (by simp <;> omega)
  try simp at kc29
  try simp at kf29
  have kc30 := Below.cell hb14 (p := ⟨w.heap.size + 1, 2, none⟩) (by simp <;> omega)
  have kf30 := Below.frozen hb14 (p := ⟨w.heap.size + 1, 2, none⟩) (by simp <;> omega)
  try simp at kc30
  try simp at kf30
  have hs4 := hb4.size
  simp at hs4
  have ne1 : w.heap.size + 1 ≠ w3.heap.size := by omega
  simp at hc0 hc1
  go_wp2_with fail
  have ne2 : w3.heap.size + 1 + 1 ≠ w3.heap.size := by omega
  have ne3 : w3.heap.size + 1 + 1 ≠ w.heap.size + 1 := by omega
  refine bodyPost_ret (v := .tuple #[.agg #[.int .i64 2, .string ⟨#[]⟩, .slice (some ⟨w3.heap.size + 1 + 1, 0, none⟩) 1 c], .bool true, .int .i64 0]) ?hres rfl ?hpost
  case hres => simp [results, Tryz.results44, go_sem, *]
  case hpost =>
   have hb15 : Below w.heap.size w w4 := Below.trans ((((Below.refl _ _).alloc (Nat.le_refl _) _).alloc (by simp) _).alloc (by simp; omega) _) (hb14.mono (by simp; omega))
   refine ⟨w3.heap.size + 1 + 1, c, rfl, ?_, ?_, ?_⟩
   · rw [cell_other ne3.symm, cell_other ne3.symm, cell_other ne3.symm, cell_other ne2.symm]
     exact hc0
   · rw [cell_other ne3.symm, cell_other ne3.symm, cell_other ne3.symm, cell_other ne2.symm]
     exact hc1
   · exact (((hb15.setCell (Nat.le_of_lt (Nat.lt_trans (by omega) hsz)) _).setCell (Nat.le_succ _) _).setCell (Nat.le_succ _) _).setCell (Nat.le_succ _) _
end Go.Proofs.YtfadhcljmnilkaaGreatDoor
