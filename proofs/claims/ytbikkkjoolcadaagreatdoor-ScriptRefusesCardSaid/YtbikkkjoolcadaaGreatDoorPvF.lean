/- Of the proof, a part (together they pass the memory). -/
import Derived.Test.YtbikkkjoolcadaaGreatDoorRows
import Derived.Test.YtbikkkjoolcadaaGreatDoorIntr
import Derived.WalkKit
import Derived.ProofKit
import Derived.OpenShut
import Derived.ChangeSame
import Derived.ChangeVars
import Derived.JoinedOf
import Derived.RowKit
import Derived.RowKitTokens
import Derived.LaidLaws
import Derived.LaidHandle
import Derived.LaidMore
import Derived.LaidSub
import Derived.Lay
import Derived.MakeChecks
import Derived.Lib.LaidTab
import Derived.Lib.ItoaNum
import Derived.Stop.Joined
import Derived.SevenTiedAt
namespace Go.Proofs.YtbikkkjoolcadaaGreatDoor.scriptRefuses
open Go.ChangeShapes Go.WideShapes Go.ChangeAt Go.RowKit
open Go.Ex
set_option linter.unusedVariables false

abbrev ld : List (String × DataW Unit) := Rows.scriptRefusesRow.laid
theorem sub (s : String) (z : List (String × DataW Unit)) (hz : (ld.filter fun x => x.1 == s) = z) {W : World} (h : laidMetH Tryz.prog ld W) : laidMetH Tryz.prog z W := by
  have := h.filter fun x => x.1 == s
  rw [hz] at this
  exact this
theorem only (s : String) (z : List (String × DataW Unit)) (hz : (ld.filter fun x => x.1 == s) = z) (hp : (z.all fun x => x.2.handleName?.isNone) = true) {W : World} (h : laidMetH Tryz.prog ld W) : laidMet Tryz.prog z W := by
  have := sub s z hz h
  rw [MakeChecks.laidMetH_plain _ _ _ hp] at this
  exact this
theorem var_at {w : World} {n : String} {g : Nat} {cs : Array Value} (hg : Tryz.prog.globalNamed n = some g) (h : w.var? Tryz.prog n = some cs) : ∃ e z, w.heap[g]? = some (.cells cs e z) := by
  unfold World.var? at h
  rw [hg, Option.bind_some] at h
  split at h
  · rename_i c e fz hw
    cases h
    exact ⟨e, fz, hw⟩
  · cases h
theorem rtIs : (Tryz.prog.cutTypes.find? (·.1 == "internal/reflectlite.rtype")).map (·.2) = some 410 := by kernel_rfl
theorem oneRow : ((List.range Tryz.prog.types.size).filter fun t => Tryz.prog.rowNamed t [101, 114, 114, 111, 114]) = [61] := by kernel_rfl
theorem varIs : Tryz.prog.globalNamed "errors.errorType" = some 1 := by kernel_rfl
theorem handleIs : typeHandle Tryz.prog 61 = .pointer (some ⟨10, 61, none⟩) := by kernel_rfl
theorem handle_of_laid {W : World} (h0 : laidMetH Tryz.prog ld W) : ∃ e fz, W.heap[1]? = some (.cells #[handle] e fz) := by
  have h := sub "errors.errorType" [("errors.errorType", Rows.laid_errors_errorType)] (by kernel_rfl) h0
  have h' : laidMet Tryz.prog [] W ∧ handlesMet Tryz.prog [("errors.errorType", Rows.laid_errors_errorType)] W := h
  obtain ⟨name, u, ty, e1, e2, e3, e4, e5⟩ := h'.2 _ (List.mem_singleton.2 rfl)
  have en : name = [101, 114, 114, 111, 114] := (Option.some.inj e1).symm
  subst en
  obtain rfl := Option.some.inj (rtIs.symm.trans e2)
  have hm : ty ∈ (List.range Tryz.prog.types.size).filter fun t => Tryz.prog.rowNamed t [101, 114, 114, 111, 114] := List.mem_filter.2 ⟨List.mem_range.2 e3, e4⟩
  rw [oneRow] at hm
  obtain rfl := List.mem_singleton.1 hm
  rw [handleIs] at e5
  exact var_at varIs e5
theorem err_cell {n : String} {g ti : Nat} {ms : Array (String × TypeId)} {nm : String} {d : DataW Unit} {W : World} (hg : Tryz.prog.globalNamed n = some g) (hty : (Tryz.prog.globals[g]?).map (·.type) = some ti) (hi : Tryz.prog.underlying ti = some (.interface ms)) (h : laidMet Tryz.prog [(n, .iface nm d)] W) : ∃ te pe e z, W.heap[g]? = some (.cells #[.iface te pe] e z) := by
  obtain ⟨ps, hv, -, -⟩ := h
  obtain ⟨g', t, cs, fuel, p, q, h1, h2, h3, h4, -, -⟩ := hv
  rw [hg] at h1
  cases h1
  rw [hty] at h2
  cases h2
  obtain ⟨f', u, v, hcs, -, -⟩ := iface_of_trod hi h4
  obtain ⟨e, z, hh⟩ := var_at hg h3
  refine ⟨u, v, e, z, ?_⟩
  obtain rfl : cs = #[.iface u v] := Array.eq_one_of_toList hcs
  exact hh
theorem pow10_of {W : World} (h : laidMetH Tryz.prog ld W) : Lib.TabIs Tryz.prog W "internal/strconv.uint64pow10" .u64 Lib.pow10Tab :=
  Lib.tabIs_of_head (g := 3) (by kernel_rfl) (by kernel_rfl) Tryz.underlying424 Tryz.underlying253 (by kernel_rfl) (by kernel_rfl)
    (only "internal/strconv.uint64pow10" [("internal/strconv.uint64pow10", Lib.tabData .u64 Lib.pow10Tab)] (by kernel_rfl) (by kernel_rfl) h)
theorem p10_eq : (Lib.pow10Tab.map fun z => Value.int .u64 z).toArray = Ex.p10.toArray := by kernel_rfl
theorem p10_atoms : p10.all atom = true := by kernel_rfl
theorem p10_flat : p10.all (flat 2) = true := by kernel_rfl

/-- The three variables in a world. -/
structure Vs (w : World) : Prop where
  hd : ∃ e fz, w.heap[1]? = some (.cells #[handle] e fz)
  pw : ∃ e fz, w.heap[3]? = some (.cells p10.toArray e fz)
  sy : ∃ te pe e fz, w.heap[4]? = some (.cells #[.iface te pe] e fz)
theorem vs_of {W : World} (h : laidMetH Tryz.prog ld W) : Vs W := by
  have h1 := pow10_of h
  unfold Lib.TabIs at h1
  rw [p10_eq] at h1
  exact ⟨handle_of_laid h, var_at (by kernel_rfl) h1, err_cell (by kernel_rfl) (by kernel_rfl) Tryz.underlying61 (only "strconv.ErrSyntax" [("strconv.ErrSyntax", Rows.laid_strconv_ErrSyntax)] (by kernel_rfl) (by kernel_rfl) h)⟩
theorem handle_VR (es : Nat → Nat) : VR (mGS 64 es) handle handle :=
  .iface _ _ _ (.agg' (fun u hu => by simp at hu; subst hu; rfl) ⟨.ptr (m := mGS 64 es) 10 61 (show 10 < 64 by omega), trivial⟩)
theorem gl_at (es : Nat → Nat) {w : World} (h : Vs w) : GlAt 64 (mGS 64 es) w gl := by
  obtain ⟨⟨e0, z0, h0⟩, ⟨e1, z1, h1⟩, ⟨te, pe, e2, z2, h2⟩⟩ := h
  intro x hx
  rcases List.mem_cons.1 hx with rfl | hx
  · exact ⟨by decide, fun v hv => by obtain rfl := List.mem_singleton.1 hv; rfl, _, e0, z0, h0, handle_VR es, trivial⟩
  rcases List.mem_cons.1 hx with rfl | hx
  · exact ⟨by decide, fun v hv => List.all_eq_true.1 p10_atoms v hv, _, e1, z1, h1, VRs.refl_of fun v hv => flat_refl _ 2 v (List.all_eq_true.1 p10_flat v hv)⟩
  · obtain rfl := List.mem_singleton.1 hx
    exact ⟨by decide, fun v hv => by obtain rfl := List.mem_singleton.1 hv; rfl, _, e2, z2, h2, .top _ rfl, trivial⟩
end Go.Proofs.YtbikkkjoolcadaaGreatDoor.scriptRefuses
