/- From what the rows list to what the walks read. -/
import Derived.Test.YtfadhcljmnilkaaGreatDoorEnv
import Derived.Test.YtfadhcljmnilkaaGreatDoorRows
import Derived.Lib.LaidU8
import Derived.Lib.LaidTab
import Derived.LaidLaws
namespace Go.Proofs.YtfadhcljmnilkaaGreatDoor
open Go.RowKit Go.ChangeShapes Nh

theorem tab_of_reads {P : Program} {W : World} {name : String} {k : IntKind} {zs : List Int} {g : Nat} {t e : TypeId} {n : Nat}
    (hg : P.globalNamed name = some g) (hty : (P.globals[g]?).map (·.type) = some t) (ht : P.underlying t = some (.array n e)) (he : P.underlying e = some (.int k)) (hce : P.cellsOf e = 1) (hct : P.cellsOf t = n)
    (h : Lib.VarReads P W name (Lib.tabData k zs)) : Lib.TabIs P W name k zs := by
  obtain ⟨g', t', cs, fuel, p, hg', ht', hvar, hd⟩ := h
  obtain rfl := Option.some.inj (hg.symm.trans hg')
  obtain rfl := Option.some.inj (hty.symm.trans ht')
  unfold Lib.TabIs
  rw [hvar, ← Lib.cells_of_tab ht he hce hct hd]

theorem iface_of_reads {W : World} {name nm : String} {d : DataW Unit} {g : Nat} (hg : Tryz.prog.globalNamed name = some g) (hty : (Tryz.prog.globals[g]?).map (·.type) = some 143)
    (h : Lib.VarReads Tryz.prog W name (.iface nm d)) : ∃ tp p, W.var? Tryz.prog name = some #[.iface tp p] := by
  obtain ⟨g', t', cs, fuel, p, hg', ht', hvar, hd⟩ := h
  obtain rfl := Option.some.inj (hg.symm.trans hg')
  obtain rfl := Option.some.inj (hty.symm.trans ht')
  obtain ⟨fuel', u, v, e, _, _⟩ := iface_of_trod Tryz.underlying143 hd
  refine ⟨u, v, ?_⟩
  rw [hvar]
  simp only [Option.some.injEq]
  cases cs; simp at e; subst e; rfl

theorem env_of {W : World} (h18 : 18 ≤ W.heap.size) (hp : Lib.VarReads Tryz.prog W "internal/strconv.uint64pow10" Rows.laid_internal_strconv_uint64pow10)
    (hs : Lib.VarReads Tryz.prog W "strconv.ErrSyntax" Rows.laid_strconv_ErrSyntax) (hr : Lib.VarReads Tryz.prog W "strconv.ErrRange" Rows.laid_strconv_ErrRange) : Env W.heap.size W where
  least := h18
  most := Nat.le_refl _
  pow10 := by
    refine tab_of_reads (g := 4) (t := 326) (e := 48) (n := 20) (by kernel_rfl) (by kernel_rfl) (by kernel_rfl) (by kernel_rfl) (by kernel_rfl) (by kernel_rfl) ?_
    have e : Rows.laid_internal_strconv_uint64pow10 (H := Unit) = Lib.tabData .u64 Lib.pow10Tab := by rfl
    rw [← e]; exact hp
  errS := iface_of_reads (g := 1) (by kernel_rfl) (by kernel_rfl) hs
  errR := iface_of_reads (g := 2) (by kernel_rfl) (by kernel_rfl) hr
theorem size_of {W : World} {d : DataW Unit} (h : Lib.VarReads Tryz.prog W "internal/strconv.leftcheats" d) : 18 ≤ W.heap.size := by
  obtain ⟨g, t, cs, fuel, p, hg, _, hv, _⟩ := h
  obtain rfl := Option.some.inj ((show Tryz.prog.globalNamed "internal/strconv.leftcheats" = some 17 by kernel_rfl).symm.trans hg)
  unfold World.var? at hv
  rw [hg] at hv
  simp only [Option.bind_some] at hv
  rcases Nat.lt_or_ge 17 W.heap.size with h | h
  · omega
  · rw [Array.getElem?_eq_none h] at hv
    simp at hv
end Go.Proofs.YtfadhcljmnilkaaGreatDoor
