/- ItemNames: one closed run, function by function: Add, AddReal, Append, Cost. -/
import Derived.Test.YtfadhcljmnilkaaGreatDoorItem1
namespace Go.Proofs.YtfadhcljmnilkaaGreatDoor
open Go.RowKit Nh

set_option maxRecDepth 100000 in
theorem item_text (t : ByteArray) (w : World) :
    Calls Tryz.prog 74 #[.string t] w fun e w' => e = .returned (.agg #[.int .i64 1, .string t, .slice none 0 0]) ∧ Below w.heap.size w w' := by
  go_enter Tryz.func74, Tryz.ntmps74
  go_wp2
  refine bodyPost_ret (v := .agg #[.int .i64 1, .string t, .slice none 0 0]) ?_ rfl ⟨rfl, ?_⟩
  · simp [results, Tryz.results74, go_sem, *]
  · exact (Below.refl _ _).alloc (Nat.le_refl _) _

set_option maxRecDepth 100000 in
theorem whole_add01 (w : World) :
    Calls Tryz.prog 73 #[.int .i64 0, .int .i64 1] w fun e w' => e = .returned (.tuple #[.int .i64 1, .int .i64 0]) ∧ w' = w := by
  go_enter Tryz.func73, Tryz.ntmps73
  go_wp2
  go_ret2
  exact ⟨rfl, rfl⟩

set_option maxRecDepth 100000 in
theorem add_none {B : Nat} (w : World) (hE : Env B w) :
    Calls Tryz.prog 29 #[.agg #[.int .i64 0, .string ⟨#[]⟩, .slice none 0 0], .int .i64 1] w fun e w' => e = .returned (.tuple #[.agg #[.int .i64 1, .string ⟨#[49]⟩, .slice none 0 0], .int .i64 1, .int .i64 0]) ∧ Below w.heap.size w w' := by
  go_enter Tryz.func29, Tryz.ntmps29
  go_wp2_with fail
  refine (whole_add01 _).mono ?_
  rintro e w1 ⟨rfl, rfl⟩
  go_wp2_with fail
  refine (text_any 1 (by decide) (by decide) _ ((hE.alloc _).alloc _)).mono ?_
  rintro e w1 ⟨rfl, hb1⟩
  have e1 : (⟨(Lib.itoa 1).toArray⟩ : ByteArray) = ⟨#[49]⟩ := by kernel_rfl
  rw [e1]
  go_wp2_with fail
  refine (item_text _ _).mono ?_
  rintro e w2 ⟨rfl, hb2⟩
  have hb12 := hb1.trans (hb2.mono hb1.size)
  have kc1 := Below.cell hb12 (p := ⟨w.heap.size + 1, 0, none⟩) (by simp <;> omega)
  have kf1 := Below.frozen hb12 (p := ⟨w.heap.size + 1, 0, none⟩) (by simp <;> omega)
  try simp at kc1
  try simp at kf1
  have kc2 := Below.cell hb12 (p := ⟨w.heap.size + 1, 1, none⟩) (by simp <;> omega)
  have kf2 := Below.frozen hb12 (p := ⟨w.heap.size + 1, 1, none⟩) (by simp <;> omega)
  try simp at kc2
  try simp at kf2
  have kc3 := Below.cell hb12 (p := ⟨w.heap.size + 1, 2, none⟩) (by simp <;> omega)
  have kf3 := Below.frozen hb12 (p := ⟨w.heap.size + 1, 2, none⟩) (by simp <;> omega)
  try simp at kc3
  try simp at kf3
  go_wp2_with fail
  refine bodyPost_ret (v := .tuple #[.agg #[.int .i64 1, .string ⟨#[49]⟩, .slice none 0 0], .int .i64 1, .int .i64 0]) ?_ rfl ⟨rfl, ?_⟩
  · simp [results, Tryz.results29, go_sem, *]
  · have hb15 : Below w.heap.size w w2 := Below.trans (((Below.refl _ _).alloc (Nat.le_refl _) _).alloc (by simp) _) (hb12.mono (by simp; omega))
    exact ((hb15.setCell (Nat.le_succ _) _).setCell (Nat.le_succ _) _).setCell (Nat.le_succ _) _

set_option maxRecDepth 100000 in
theorem add_one (b c : Nat) (f v : ByteArray) (w : World) (h0 : w.cell? ⟨b, 0, none⟩ = some (.string f)) (h1 : w.cell? ⟨b, 1, none⟩ = some (.string v)) :
    Calls Tryz.prog 29 #[.agg #[.int .i64 2, .string ⟨#[]⟩, .slice (some ⟨b, 0, none⟩) 1 c], .int .i64 1] w fun e w' => ∃ a n d, e = .returned (.tuple #[.agg #[.int .i64 2, .string ⟨#[]⟩, .slice (some a) n d], .int .i64 0, .int .i64 91]) ∧ Below w.heap.size w w' := by
  go_enter Tryz.func29, Tryz.ntmps29
  go_wp2_with fail
  refine (copy_one b c f v _ (cell_alloc (cell_alloc h0 _) _) (cell_alloc (cell_alloc h1 _) _)).mono ?_
  rintro e w1 ⟨a, n, d, rfl, hb1⟩
  have kc4 := Below.cell hb1 (p := ⟨w.heap.size + 1, 0, none⟩) (by simp <;> omega)
  have kf4 := Below.frozen hb1 (p := ⟨w.heap.size + 1, 0, none⟩) (by simp <;> omega)
  try simp at kc4
  try simp at kf4
  have kc5 := Below.cell hb1 (p := ⟨w.heap.size + 1, 1, none⟩) (by simp <;> omega)
  have kf5 := Below.frozen hb1 (p := ⟨w.heap.size + 1, 1, none⟩) (by simp <;> omega)
  try simp at kc5
  try simp at kf5
  have kc6 := Below.cell hb1 (p := ⟨w.heap.size + 1, 2, none⟩) (by simp <;> omega)
  have kf6 := Below.frozen hb1 (p := ⟨w.heap.size + 1, 2, none⟩) (by simp <;> omega)
  try simp at kc6
  try simp at kf6
  go_wp2_with fail
  refine bodyPost_ret (v := .tuple #[.agg #[.int .i64 2, .string ⟨#[]⟩, .slice (some a) n d], .int .i64 0, .int .i64 91]) ?_ rfl ⟨_, _, _, rfl, ?_⟩
  · simp [results, Tryz.results29, go_sem, *]
  · have hb15 : Below w.heap.size w w1 := Below.trans (((Below.refl _ _).alloc (Nat.le_refl _) _).alloc (by simp) _) (hb1.mono (by simp; omega))
    exact ((hb15.setCell (Nat.le_succ _) _).setCell (Nat.le_succ _) _).setCell (Nat.le_succ _) _

set_option maxRecDepth 100000 in
theorem add_x {B : Nat} (w : World) (hE : Env B w) :
    Calls Tryz.prog 29 #[.agg #[.int .i64 1, .string ⟨#[120]⟩, .slice none 0 0], .int .i64 1] w fun e w' => e = .returned (.tuple #[.agg #[.int .i64 1, .string ⟨#[120]⟩, .slice none 0 0], .int .i64 0, .int .i64 92]) ∧ Below w.heap.size w w' := by
  go_enter Tryz.func29, Tryz.ntmps29
  go_wp2_with fail
  refine (parse_any _ (by decide) _ ((hE.alloc _).alloc _)).mono ?_
  rintro e w1 ⟨rfl, hb1⟩
  have e1 : wholeVal (⟨#[120]⟩ : ByteArray).data.toList = 0 ∧ wholeErr (⟨#[120]⟩ : ByteArray).data.toList = 11 := by decide
  rw [e1.1, e1.2]
  have kc7 := Below.cell hb1 (p := ⟨w.heap.size, 0, none⟩) (by simp <;> omega)
  have kf7 := Below.frozen hb1 (p := ⟨w.heap.size, 0, none⟩) (by simp <;> omega)
  try simp at kc7
  try simp at kf7
  have kc8 := Below.cell hb1 (p := ⟨w.heap.size, 1, none⟩) (by simp <;> omega)
  have kf8 := Below.frozen hb1 (p := ⟨w.heap.size, 1, none⟩) (by simp <;> omega)
  try simp at kc8
  try simp at kf8
  have kc9 := Below.cell hb1 (p := ⟨w.heap.size, 2, none⟩) (by simp <;> omega)
  have kf9 := Below.frozen hb1 (p := ⟨w.heap.size, 2, none⟩) (by simp <;> omega)
  try simp at kc9
  try simp at kf9
  have kc10 := Below.cell hb1 (p := ⟨w.heap.size + 1, 0, none⟩) (by simp <;> omega)
  have kf10 := Below.frozen hb1 (p := ⟨w.heap.size + 1, 0, none⟩) (by simp <;> omega)
  try simp at kc10
  try simp at kf10
  have kc11 := Below.cell hb1 (p := ⟨w.heap.size + 1, 1, none⟩) (by simp <;> omega)
  have kf11 := Below.frozen hb1 (p := ⟨w.heap.size + 1, 1, none⟩) (by simp <;> omega)
  try simp at kc11
  try simp at kf11
  have kc12 := Below.cell hb1 (p := ⟨w.heap.size + 1, 2, none⟩) (by simp <;> omega)
  have kf12 := Below.frozen hb1 (p := ⟨w.heap.size + 1, 2, none⟩) (by simp <;> omega)
  try simp at kc12
  try simp at kf12
  go_wp2_with fail
  refine bodyPost_ret (v := .tuple #[.agg #[.int .i64 1, .string ⟨#[120]⟩, .slice none 0 0], .int .i64 0, .int .i64 92]) ?_ rfl ⟨rfl, ?_⟩
  · simp [results, Tryz.results29, go_sem, *]
  · have hb15 : Below w.heap.size w w1 := Below.trans (((Below.refl _ _).alloc (Nat.le_refl _) _).alloc (by simp) _) (hb1.mono (by simp; omega))
    exact ((hb15.setCell (Nat.le_succ _) _).setCell (Nat.le_succ _) _).setCell (Nat.le_succ _) _

theorem isnan_inf : isNan 9218868437227405312 = false := by decide
set_option maxRecDepth 100000 in
theorem counts_inf (w : World) : Calls Tryz.prog 80 #[.float .f64 9218868437227405312] w fun e w' => e = .returned (.bool false) ∧ Below w.heap.size w w' := by
  have hk := run_from28
  have hk2 := run_bits89
  go_enter Tryz.func80, Tryz.ntmps80
  go_wp2_with fail
  refine (nan_any _ _).mono ?_
  rintro e w1 ⟨rfl, rfl⟩
  rw [isnan_inf]
  go_wp2
  go_ret
  exact ⟨rfl, Below.refl _ _⟩

theorem parse_inf (w : World) :
    Calls Tryz.prog 79 #[.string ⟨#[105, 110, 102]⟩] w fun e w' => e = .returned (.tuple #[.float .f64 9218868437227405312, .int .i64 0]) ∧ Below w.heap.size w w' := by
  have hk := run_from28
  go_enter Tryz.func79, Tryz.ntmps79
  go_wp2
  go_ret2
  exact ⟨rfl, Below.refl _ _⟩

set_option maxRecDepth 100000 in
theorem addreal_inf (w : World) :
    Calls Tryz.prog 31 #[.agg #[.int .i64 1, .string ⟨#[105, 110, 102]⟩, .slice none 0 0], .float .f64 4607182418800017408] w fun e w' => e = .returned (.tuple #[.agg #[.int .i64 1, .string ⟨#[105, 110, 102]⟩, .slice none 0 0], .string ⟨#[]⟩, .int .i64 93]) ∧ Below w.heap.size w w' := by
  go_enter Tryz.func31, Tryz.ntmps31
  go_wp2_with fail
  refine (parse_inf _).mono ?_
  rintro e w1 ⟨rfl, hb1⟩
  have kc13 := Below.cell hb1 (p := ⟨w.heap.size, 0, none⟩) (by simp <;> omega)
  have kf13 := Below.frozen hb1 (p := ⟨w.heap.size, 0, none⟩) (by simp <;> omega)
  try simp at kc13
  try simp at kf13
  have kc14 := Below.cell hb1 (p := ⟨w.heap.size, 1, none⟩) (by simp <;> omega)
  have kf14 := Below.frozen hb1 (p := ⟨w.heap.size, 1, none⟩) (by simp <;> omega)
  try simp at kc14
  try simp at kf14
  have kc15 := Below.cell hb1 (p := ⟨w.heap.size, 2, none⟩) (by simp <;> omega)
  have kf15 := Below.frozen hb1 (p := ⟨w.heap.size, 2, none⟩) (by simp <;> omega)
  try simp at kc15
  try simp at kf15
  have kc16 := Below.cell hb1 (p := ⟨w.heap.size + 1, 0, none⟩) (by simp <;> omega)
  have kf16 := Below.frozen hb1 (p := ⟨w.heap.size + 1, 0, none⟩) (by simp <;> omega)
  try simp at kc16
  try simp at kf16
  have kc17 := Below.cell hb1 (p := ⟨w.heap.size + 1, 1, none⟩) (by simp <;> omega)
  have kf17 := Below.frozen hb1 (p := ⟨w.heap.size + 1, 1, none⟩) (by simp <;> omega)
  try simp at kc17
  try simp at kf17
  have kc18 := Below.cell hb1 (p := ⟨w.heap.size + 1, 2, none⟩) (by simp <;> omega)
  have kf18 := Below.frozen hb1 (p := ⟨w.heap.size + 1, 2, none⟩) (by simp <;> omega)
  try simp at kc18
  try simp at kf18
  go_wp2_with fail
  refine (counts_inf _).mono ?_
  rintro e w2 ⟨rfl, hb2⟩
  have hb12 := hb1.trans (hb2.mono hb1.size)
  have kc19 := Below.cell hb12 (p := ⟨w.heap.size, 0, none⟩) (by simp <;> omega)
  have kf19 := Below.frozen hb12 (p := ⟨w.heap.size, 0, none⟩) (by simp <;> omega)
  try simp at kc19
  try simp at kf19
  have kc20 := Below.cell hb12 (p := ⟨w.heap.size, 1, none⟩) (by simp <;> omega)
  have kf20 := Below.frozen hb12 (p := ⟨w.heap.size, 1, none⟩) (by simp <;> omega)
  try simp at kc20
  try simp at kf20
  have kc21 := Below.cell hb12 (p := ⟨w.heap.size, 2, none⟩) (by simp <;> omega)
  have kf21 := Below.frozen hb12 (p := ⟨w.heap.size, 2, none⟩) (by simp <;> omega)
  try simp at kc21
  try simp at kf21
  have kc22 := Below.cell hb12 (p := ⟨w.heap.size + 1, 0, none⟩) (by simp <;> omega)
  have kf22 := Below.frozen hb12 (p := ⟨w.heap.size + 1, 0, none⟩) (by simp <;> omega)
  try simp at kc22
  try simp at kf22
  have kc23 := Below.cell hb12 (p := ⟨w.heap.size + 1, 1, none⟩) (by simp <;> omega)
  have kf23 := Below.frozen hb12 (p := ⟨w.heap.size + 1, 1, none⟩) (by simp <;> omega)
  try simp at kc23
  try simp at kf23
  have kc24 := Below.cell hb12 (p := ⟨w.heap.size + 1, 2, none⟩) (by simp <;> omega)
  have kf24 := Below.frozen hb12 (p := ⟨w.heap.size + 1, 2, none⟩) (by simp <;> omega)
  try simp at kc24
  try simp at kf24
  go_wp2_with fail
  refine bodyPost_ret (v := .tuple #[.agg #[.int .i64 1, .string ⟨#[105, 110, 102]⟩, .slice none 0 0], .string ⟨#[]⟩, .int .i64 93]) ?_ rfl ⟨rfl, ?_⟩
  · simp [results, Tryz.results31, go_sem, *]
  · have hb15 : Below w.heap.size w w2 := Below.trans (((Below.refl _ _).alloc (Nat.le_refl _) _).alloc (by simp) _) (hb12.mono (by simp; omega))
    exact ((hb15.setCell (Nat.le_succ _) _).setCell (Nat.le_succ _) _).setCell (Nat.le_succ _) _

set_option maxRecDepth 100000 in
theorem append_big (s : ByteArray) (hs : s.size = 4097) (w : World) :
    Calls Tryz.prog 45 #[.agg #[.int .i64 0, .string ⟨#[]⟩, .slice none 0 0], .string s] w fun e w' => e = .returned (.tuple #[.agg #[.int .i64 0, .string ⟨#[]⟩, .slice none 0 0], .int .i64 94]) ∧ Below w.heap.size w w' := by
  go_enter Tryz.func45, Tryz.ntmps45
  go_wp2_with fail
  refine bodyPost_ret (v := .tuple #[.agg #[.int .i64 0, .string ⟨#[]⟩, .slice none 0 0], .int .i64 94]) ?_ rfl ⟨rfl, ?_⟩
  · simp [results, Tryz.results45, go_sem, *]
  · exact ((((Below.refl _ _).alloc (Nat.le_refl _) _).alloc (by simp) _))

set_option maxRecDepth 100000 in
theorem cost_one (b c : Nat) (w : World) (h0 : w.cell? ⟨b, 0, none⟩ = some (.string ⟨#[102]⟩)) (h1 : w.cell? ⟨b, 1, none⟩ = some (.string ⟨#[118]⟩)) :
    Calls Tryz.prog 46 #[.string ⟨#[107]⟩, .agg #[.int .i64 2, .string ⟨#[]⟩, .slice (some ⟨b, 0, none⟩) 1 c]] w fun e w' => e = .returned (.int .i64 67) ∧ Below w.heap.size w w' := by
  go_enter Tryz.func46, Tryz.ntmps46
  go_wp2_with fail
  have k0 := cell_alloc h0 (Obj.cells #[Value.int IntKind.i64 2, Value.string { data := #[] }, Value.slice (some { block := b, off := 0 }) 1 c] 47)
  have k1 := cell_alloc h1 (Obj.cells #[Value.int IntKind.i64 2, Value.string { data := #[] }, Value.slice (some { block := b, off := 0 }) 1 c] 47)
  go_loopw [5, 34] (fun n k wr => (n = .int .i64 49 ∧ k = .int .i64 0 ∧ wr = w.alloc (Obj.cells #[Value.int IntKind.i64 2, Value.string { data := #[] }, Value.slice (some { block := b, off := 0 }) 1 c] 47)) ∨ (n = .int .i64 67 ∧ k = .int .i64 1 ∧ Below w.heap.size w wr)) (fun n k wr => 1 - (intOf k).toNat)
  case atStart => exact .inl ⟨rfl, rfl, rfl⟩
  case round =>
    rcases hrel with ⟨rfl, rfl, rfl⟩ | ⟨rfl, rfl, hb⟩
    · go_wp2
      exact ⟨.inr ⟨rfl, rfl, ((Below.refl _ _).alloc (Nat.le_refl _) _).alloc (by simp) _⟩, by simp [intOf]⟩
    · go_wp2
      go_ret
      exact ⟨rfl, hb⟩

set_option maxRecDepth 100000 in
theorem cost_text {B : Nat} (w : World) (hE : Env B w) :
    Calls Tryz.prog 46 #[.string ⟨#[107]⟩, .agg #[.int .i64 1, .string ⟨#[49]⟩, .slice none 0 0]] w fun e w' => e = .returned (.int .i64 57) ∧ Below w.heap.size w w' := by
  go_enter Tryz.func46, Tryz.ntmps46
  go_wp2_with fail
  refine (parse_any _ (by decide) _ (hE.alloc _)).mono ?_
  rintro e w1 ⟨rfl, hb1⟩
  have e1 : wholeVal (⟨#[49]⟩ : ByteArray).data.toList = 1 ∧ wholeErr (⟨#[49]⟩ : ByteArray).data.toList = 0 := ⟨by kernel_rfl, by kernel_rfl⟩
  rw [e1.1, e1.2]
  go_wp2_with fail
  go_ret
  exact ⟨rfl, Below.trans ((Below.refl _ _).alloc (Nat.le_refl _) _) (hb1.mono (by simp))⟩

set_option maxRecDepth 100000 in
theorem item_alive {B : Nat} (w : World) (hE : Env B w) :
    Calls Tryz.prog 25 #[] w fun e w' => e = .returned (.bool true) ∧ Below w.heap.size w w' := by
  go_enter Tryz.func25, Tryz.ntmps25
  go_wp2_with fail
  refine (add_none _ hE).mono ?_
  rintro e w1 ⟨rfl, hb1⟩
  go_wp2_with fail
  refine (cost_text _ ((hE.ext hb1).alloc _)).mono ?_
  rintro e w2 ⟨rfl, hb2⟩
  go_wp2_with fail
  go_ret
  exact ⟨rfl, (hb1.alloc hb1.size _).trans (hb2.mono (by simp; have := hb1.size; omega))⟩

theorem run_make22 (w : World) : (Instr.makeSlice 22 (.int .i64 4097) (.int .i64 4097)).run Tryz.prog w = .ok (.slice (some ⟨w.heap.size, 0, none⟩) 4097 4097) (w.alloc (.cells (madeCells #[.int .u8 0] 4097) 5)) := by
  have := run_makeSlice (P := Tryz.prog) w 22 5 Tryz.t5 (.int .u8 0) Tryz.underlying22 (by kernel_rfl) (by kernel_rfl) .i64 .i64 4097 4097 (by decide) (by decide) (by show 4097 * 1 ≤ _; omega) (by show ((1 : Nat) : Int) * 4097 ≤ _; omega) (by decide)
  simpa [show Tryz.t5.size = 1 from rfl, Value.cells] using this
theorem conv_list (l : List UInt8) (n : Nat) (hn : l.length = n) (w : World) (g : Nat) (hc : ∀ j (hj : j < l.length), w.cell? ⟨g, j, none⟩ = some (.int .u8 (l[j].toNat : Int))) :
    (convert 22 9 (.slice (some ⟨g, 0, none⟩) n n)).run Tryz.prog w = .ok (.string ⟨l.toArray⟩) w := by
  subst hn
  refine run_convert_bytes_back (P := Tryz.prog) w 22 9 5 ⟨g, 0, none⟩ l.length l Tryz.underlying22 Tryz.underlying5 Tryz.underlying9 ?_
  intro j hj
  have : (⟨g, 0, none⟩ : Addr).add j = ⟨g, j, none⟩ := by rw [Addr.add_lit, Nat.zero_add]
  rw [this]
  exact hc j hj
theorem run_conv22 : ∃ z : ByteArray, z.size = 4097 ∧ ∀ w : World, (convert 22 9 (.slice (some ⟨w.heap.size, 0, none⟩) 4097 4097)).run Tryz.prog (w.alloc (.cells (madeCells #[.int .u8 0] 4097) 5)) = .ok (.string z) (w.alloc (.cells (madeCells #[.int .u8 0] 4097) 5)) := by
  refine ⟨⟨(List.replicate 4097 0).toArray⟩, ?_, fun w => conv_list _ _ (List.length_replicate) _ _ ?_⟩
  · show (List.replicate 4097 (0 : UInt8)).toArray.size = 4097
    rw [List.size_toArray, List.length_replicate]
  · intro j hj
    rw [List.getElem_replicate, World.cell?_alloc_new]
    rw [List.length_replicate] at hj
    unfold madeCells
    rw [Array.getElem?_map, Array.getElem?_range, if_pos hj]
    simp [Nat.mod_one]

theorem keepc {W w' : World} {g k : Nat} {v : Value} (hb : Below W.heap.size W w') (h : W.cell? ⟨g, k, none⟩ = some v) : w'.cell? ⟨g, k, none⟩ = some v := (hb.cell (p := ⟨g, k, none⟩) (cell_lt h)).trans h
theorem below_more {w W w' : World} (h : Below w.heap.size w W) (o : Obj) (hb : Below (W.alloc o).heap.size (W.alloc o) w') : Below w.heap.size w w' :=
  (h.alloc h.size o).trans (hb.mono (by have := h.size; simp; omega))

set_option maxHeartbeats 3200000 in
set_option maxRecDepth 100000 in
theorem item_names {B : Nat} (w : World) (hE : Env B w) :
    Calls Tryz.prog 8 #[] w fun e w' => e = .returned (.bool true) ∧ Below w.heap.size w w' := by
  obtain ⟨z, hz, hcv⟩ := run_conv22
  have hmk := run_make22
  go_enter Tryz.func8, Tryz.ntmps8
  go_wp2_with fail
  refine (put_one _).mono ?_
  rintro e w1 ⟨b, c, rfl, hc0, hc1, hb1⟩
  go_wp2_with fail
  refine (add_one b c _ _ _ (cell_alloc hc0 _) (cell_alloc hc1 _)).mono ?_
  rintro e w2 ⟨a1, n1, d1, rfl, hb2⟩
  have hE2 := ((hE.ext hb1).alloc _).ext hb2
  have hw2 := below_more hb1 _ hb2
  have k20 := keepc hb2 (g := w1.heap.size) (k := 0) (World.cell?_alloc_new _ _ _ _)
  have k21 := keepc hb2 (g := w1.heap.size) (k := 1) (World.cell?_alloc_new _ _ _ _)
  have k22 := keepc hb2 (g := w1.heap.size) (k := 2) (World.cell?_alloc_new _ _ _ _)
  have hc20 := keepc hb2 (cell_alloc hc0 _)
  have hc21 := keepc hb2 (cell_alloc hc1 _)
  clear hb2
  go_wp2_with fail
  refine (add_x _ (hE2.alloc _)).mono ?_
  rintro e w3 ⟨rfl, hb3⟩
  have hE3 := (hE2.alloc _).ext hb3
  have hw3 := below_more hw2 _ hb3
  have k30 := keepc hb3 (cell_alloc k20 _)
  have k31 := keepc hb3 (cell_alloc k21 _)
  have k32 := keepc hb3 (cell_alloc k22 _)
  have hc30 := keepc hb3 (cell_alloc hc20 _)
  have hc31 := keepc hb3 (cell_alloc hc21 _)
  clear hb3 hE2 k20 k21 k22 hc20 hc21 hw2
  go_wp2_with fail
  refine (addreal_inf _).mono ?_
  rintro e w4 ⟨rfl, hb4⟩
  have hE4 := (hE3.alloc _).ext hb4
  have hw4 := below_more hw3 _ hb4
  have k40 := keepc hb4 (cell_alloc k30 _)
  have k41 := keepc hb4 (cell_alloc k31 _)
  have k42 := keepc hb4 (cell_alloc k32 _)
  have hc40 := keepc hb4 (cell_alloc hc30 _)
  have hc41 := keepc hb4 (cell_alloc hc31 _)
  clear hb4 hE3 k30 k31 k32 hc30 hc31 hw3
  have hcv4 := hcv (w4.alloc (Obj.cells #[Value.int .i64 1, Value.string ⟨#[105, 110, 102]⟩, Value.slice none 0 0] 47))
  rw [World.size_alloc] at hcv4
  go_wp2_with fail
  refine (append_big z hz _).mono ?_
  rintro e w5 ⟨rfl, hb5⟩
  have hE5 := ((hE4.alloc _).alloc _).ext hb5
  have hw5 := below_more ((hw4.alloc hw4.size _)) _ hb5
  have k50 := keepc hb5 (cell_alloc (cell_alloc k40 _) _)
  have k51 := keepc hb5 (cell_alloc (cell_alloc k41 _) _)
  have k52 := keepc hb5 (cell_alloc (cell_alloc k42 _) _)
  have hc50 := keepc hb5 (cell_alloc (cell_alloc hc40 _) _)
  have hc51 := keepc hb5 (cell_alloc (cell_alloc hc41 _) _)
  clear hb5 hE4 k40 k41 k42 hc40 hc41 hw4 hcv hcv4 hmk
  go_wp2_with fail
  refine (item_alive _ (hE5.alloc _)).mono ?_
  rintro e w6 ⟨rfl, hb6⟩
  have hw6 := below_more hw5 _ hb6
  have k60 := keepc hb6 (cell_alloc k50 _)
  have k61 := keepc hb6 (cell_alloc k51 _)
  have k62 := keepc hb6 (cell_alloc k52 _)
  have hc60 := keepc hb6 (cell_alloc hc50 _)
  have hc61 := keepc hb6 (cell_alloc hc51 _)
  clear hb6 hE5 k50 k51 k52 hc50 hc51 hw5
  go_wp2_with fail
  refine (cost_one b c _ hc60 hc61).mono ?_
  rintro e w7 ⟨rfl, hb7⟩
  go_wp2_with fail
  go_ret
  exact ⟨rfl, hw6.trans (hb7.mono hw6.size)⟩
end Go.Proofs.YtfadhcljmnilkaaGreatDoor
