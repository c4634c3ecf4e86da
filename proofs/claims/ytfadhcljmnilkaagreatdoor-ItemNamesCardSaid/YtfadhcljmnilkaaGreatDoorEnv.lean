/- The package-level tables that the seat's walks read, and how they stay; whole.Text and whole.Parse. -/
import Derived.Test.YtfadhcljmnilkaaGreatDoorBase
import Derived.Test.YtfadhcljmnilkaaGreatDoorShelf
import Derived.Test.YtfadhcljmnilkaaGreatDoorPureWhole
import Derived.Lib.SmallJoins
namespace Go.Proofs.YtfadhcljmnilkaaGreatDoor
open Go.RowKit Nh

/-- The tables lie below block B as the program's text lays them. -/
structure Env (B : Nat) (w : World) : Prop where
  least : 18 ≤ B
  most : B ≤ w.heap.size
  pow10 : Lib.TabIs Tryz.prog w "internal/strconv.uint64pow10" .u64 Lib.pow10Tab
  errS : ∃ tp p, w.var? Tryz.prog "strconv.ErrSyntax" = some #[.iface tp p]
  errR : ∃ tp p, w.var? Tryz.prog "strconv.ErrRange" = some #[.iface tp p]

theorem var_keep {w w' : World} {B : Nat} (hb : Below B w w') (hB : 18 ≤ B) (name : String) (g : Nat) (hg : Tryz.prog.globalNamed name = some g) (h18 : g < 18) : w'.var? Tryz.prog name = w.var? Tryz.prog name := by
  unfold World.var?
  rw [hg]
  simp only [Option.bind_some]
  rw [hb.block g (by omega)]

theorem Env.below {B : Nat} {w w' : World} (h : Env B w) (hb : Below B w w') : Env B w' where
  least := h.least
  most := Nat.le_trans h.most hb.size
  pow10 := (var_keep hb h.least _ 4 (by kernel_rfl) (by omega)).trans h.pow10
  errS := by obtain ⟨tp, p, e⟩ := h.errS; exact ⟨tp, p, (var_keep hb h.least _ 1 (by kernel_rfl) (by omega)).trans e⟩
  errR := by obtain ⟨tp, p, e⟩ := h.errR; exact ⟨tp, p, (var_keep hb h.least _ 2 (by kernel_rfl) (by omega)).trans e⟩
theorem Env.ext {B : Nat} {w w' : World} (h : Env B w) (hb : Below w.heap.size w w') : Env B w' := h.below (hb.mono h.most)
theorem Env.alloc {B : Nat} {w : World} (h : Env B w) (o : Obj) : Env B (w.alloc o) := h.ext ((Below.refl _ _).alloc (Nat.le_refl _) _)

theorem text_any {B : Nat} (n : Int) (h0 : -9223372036854775808 ≤ n) (h1 : n ≤ 9223372036854775807) (w : World) (hE : Env B w) :
    Calls Tryz.prog 75 #[.int .i64 n] w fun e w' => e = .returned (.string ⟨(Lib.itoa n).toArray⟩) ∧ Below w.heap.size w w' := by
  go_enter Tryz.func75, Tryz.ntmps75
  go_wp2_with fail
  refine (Tryz.strconv_FormatInt_10 n h0 h1 _ hE.pow10).mono ?_
  rintro e w' ⟨rfl, k, os, rfl⟩
  go_wp2
  go_ret
  exact ⟨rfl, Lib.below_grow _ _ (Nat.le_refl _) _ _⟩

/-- What whole.Parse answers. -/
def wholeVal (l : List UInt8) : Int := (progWhole l).getD 0
def wholeErr (l : List UInt8) : Int := if (progWhole l).isSome then 0 else 11

theorem below_bytes (w : World) (e : TypeId) (s : ByteArray) : Below w.heap.size w (Lib.bytesWorld w e s) := Joins.below_bytesWorld _ _ _ _ (Nat.le_refl _)

theorem parse_any {B : Nat} (s : ByteArray) (hs : s.size ≤ 281474976710656) (w : World) (hE : Env B w) :
    Calls Tryz.prog 72 #[.string s] w fun e w' => e = .returned (.tuple #[.int .i64 (wholeVal s.data.toList), .int .i64 (wholeErr s.data.toList)]) ∧ Below w.heap.size w w' := by
  obtain ⟨tpS, pS, hS⟩ := hE.errS
  obtain ⟨tpR, pR, hR⟩ := hE.errR
  cases hp : Lib.parseIntB 64 s.data.toList with
  | ok v =>
    have hv := parseIntB_range _ _ hp
    have hP := Lib.hid hp
    have e1 : ∀ b : Bool, (decide (Lib.itoa v = s.data.toList)) = b → wholeVal s.data.toList = (if b then v else 0) ∧ wholeErr s.data.toList = (if b then 0 else 11) := by
      intro b hb
      simp only [wholeVal, wholeErr, progWhole, hp]
      cases b
      · have : ¬ Lib.itoa v = s.data.toList := of_decide_eq_false hb
        simp [this]
      · have := of_decide_eq_true hb
        simp [this]
    clear hp
    by_cases hi : Lib.itoa v = s.data.toList
    · obtain ⟨e2, e3⟩ := e1 true (by simp [hi])
      rw [e2, e3]
      have hH := Lib.hid hi
      clear hi e2 e3 e1
      go_enter Tryz.func72, Tryz.ntmps72
      go_wp2_with fail
      refine (Tryz.strconv_ParseInt_10_at64_ok s (by omega) v hP.out w).mono ?_
      rintro e w1 ⟨rfl, hw1⟩
      have hb1 : Below w.heap.size w w1 := by
        rcases hw1 with rfl | ⟨t, rfl⟩
        · exact Below.refl _ _
        · exact below_bytes _ _ _
      clear hw1
      go_wp2_with fail
      refine (text_any v hv.1 (by omega) _ (hE.ext hb1)).mono ?_
      rintro e w2 ⟨rfl, hb2⟩
      rw [hH.out]
      go_wp2
      go_ret2
      exact ⟨rfl, hb1.trans (hb2.mono hb1.size)⟩
    · obtain ⟨e2, e3⟩ := e1 false (by simp [hi])
      rw [e2, e3]
      have hH := Lib.hid hi
      clear hi e2 e3 e1
      go_enter Tryz.func72, Tryz.ntmps72
      go_wp2_with fail
      refine (Tryz.strconv_ParseInt_10_at64_ok s (by omega) v hP.out w).mono ?_
      rintro e w1 ⟨rfl, hw1⟩
      have hb1 : Below w.heap.size w w1 := by
        rcases hw1 with rfl | ⟨t, rfl⟩
        · exact Below.refl _ _
        · exact below_bytes _ _ _
      clear hw1
      go_wp2_with fail
      refine (text_any v hv.1 (by omega) _ (hE.ext hb1)).mono ?_
      rintro e w2 ⟨rfl, hb2⟩
      have hne : (Lib.itoa v == s.toList) = false := by
        rw [ByteArray.toList_eq]; exact beq_eq_false_iff_ne.2 hH.out
      go_wp2
      go_ret2
      exact ⟨rfl, hb1.trans (hb2.mono hb1.size)⟩
  | range =>
    have hP := Lib.hid hp
    have e1 : wholeVal s.data.toList = 0 ∧ wholeErr s.data.toList = 11 := by simp [wholeVal, wholeErr, progWhole, hp]
    rw [e1.1, e1.2]
    clear e1 hp
    go_enter Tryz.func72, Tryz.ntmps72
    go_wp2_with fail
    refine (Tryz.strconv_ParseInt_10_at64_range_var s hs hP.out tpR pR w hR).mono ?_
    rintro e w1 ⟨N, rfl, -, -, hb1⟩
    go_wp2
    go_ret2
    exact ⟨rfl, hb1⟩
  | _ =>
    have hP := Lib.hid hp
    have e1 : wholeVal s.data.toList = 0 ∧ wholeErr s.data.toList = 11 := by simp [wholeVal, wholeErr, progWhole, hp]
    rw [e1.1, e1.2]
    clear e1 hp
    go_enter Tryz.func72, Tryz.ntmps72
    go_wp2_with fail
    have c : Calls Tryz.prog 141 #[.string s, .int .i64 10, .int .i64 64] w fun e w' => ∃ N, e = .returned (.tuple #[.int .i64 (0), .iface 256 (.pointer (some ⟨N, 0, none⟩))]) ∧ w.heap.size ≤ N ∧ w'.heap[N]? = some (.cells #[.string ⟨#[80, 97, 114, 115, 101, 73, 110, 116]⟩, .string s, .iface tpS pS] 297 (0, 0)) ∧ Below w.heap.size w w' := Any.strconv_ParseInt_10_at64_syntax_var Tryz.laysC174 s hs hP.out tpS pS w hS
    refine c.mono ?_
    rintro e w1 ⟨N, rfl, -, -, hb1⟩
    go_wp2
    go_ret2
    exact ⟨rfl, hb1⟩
end Go.Proofs.YtfadhcljmnilkaaGreatDoor
