/- What the rows' condition gives of the errors' variables. -/
import Derived.Test.YtpjfhdbkkomogaaDoorLd
import Derived.Test.YtpjfhdbkkomogaaDoorLi
namespace Go.Proofs.YtpjfhdbkkomogaaDoor.Mb
open Go.RowKit

theorem err_cell {n : String} {g ti : Nat} {ms : Array (String × TypeId)} {nm : String} {d : DataW Unit} {W : World} (hg : Tryd.prog.globalNamed n = some g) (hty : (Tryd.prog.globals[g]?).map (·.type) = some ti) (hi : Tryd.prog.underlying ti = some (.interface ms)) (h : laidMet Tryd.prog [(n, .iface nm d)] W) : ∃ te pe, W.cell? ⟨g, 0, none⟩ = some (.iface te pe) := by
  obtain ⟨ps, hv, -, -⟩ := h
  obtain ⟨g', t, cs, fuel, p, q, h1, h2, h3, h4, -, -⟩ := hv
  rw [hg] at h1
  cases h1
  rw [hty] at h2
  cases h2
  obtain ⟨f', u, v, hcs, -, -⟩ := iface_of_trod hi h4
  obtain ⟨e, z, hh⟩ := var_at hg h3
  refine ⟨u, v, ?_⟩
  obtain rfl : cs = #[.iface u v] := Array.eq_one_of_toList hcs
  simp [World.cell?, hh]
theorem errs_of {W : World} (h : laidMetH Tryd.prog laid5 W) : Errs W :=
  ⟨tabs_of h,
    err_cell (by kernel_rfl) (by kernel_rfl) Tryd.underlying78 (only "strconv.ErrSyntax" [("strconv.ErrSyntax", Rows.laid_strconv_ErrSyntax)] (by kernel_rfl) (by kernel_rfl) h),
    err_cell (by kernel_rfl) (by kernel_rfl) Tryd.underlying78 (only "strconv.ErrRange" [("strconv.ErrRange", Rows.laid_strconv_ErrRange)] (by kernel_rfl) (by kernel_rfl) h)⟩
end Go.Proofs.YtpjfhdbkkomogaaDoor.Mb
