/- Texts of this claim, one behind the other. -/
import Derived.Test.YtpjfhdbkkomogaaDoorH11
import Derived.Test.YtpjfhdbkkomogaaDoorH12
namespace Go.Proofs.YtpjfhdbkkomogaaDoor.Mb
open Go.RowKit Go.Proofs.YtpjfhdbkkomogaaDoorW.PrintWords Go.Proofs.YtpjfhdbkkomogaaDoorW.PrintLast Go.Proofs.YtpjfhdbkkomogaaDoorW.PrintMore Go.Proofs.YtpjfhdbkkomogaaDoor.Px Go.Proofs.YtpjfhdbkkomogaaDoor.Gvn
theorem good_in {l : List S24} {s : ByteArray} (h : Good l s) : (∀ v ∈ l, v.f3 < 18446744073709551616) ∧ l.length ≤ 3000 := by
  obtain ⟨ts, hrt, -⟩ := h
  refine ⟨fun v hv => ?_, hrt.few⟩
  obtain ⟨i, hi, rfl⟩ := List.mem_iff_getElem.1 hv
  exact (vt_in (hrt.at_ i hi (by rw [hrt.len]; exact hi))).2.2
theorem both_parse (s : ByteArray) (hs : s.size ≤ 1000) : ∃ v : S24, ∃ e : Int, v.f3 < 18446744073709551616 ∧ text_Parse.f s = some (v.f0, v.f1, v.f2, v.f3, e) ∧ Ev (fun k => rialtoref4_Parse.f k s) (v.f0, v.f1, v.f2, v.f3, e) := by
  obtain ⟨r, hr, hr2⟩ := text_parse s hs
  obtain ⟨k, q, hk, hq⟩ := ref_parse s hs
  have he := ev_of (g := fun k => rialtoref4_Parse.f k s) (fun k => rialtoref4_Parse.mono _ k) hk
  rcases hr2 with ⟨v, hv, rfl⟩ | ⟨hn, rfl⟩
  · rcases hq with ⟨u, hu, rfl⟩ | ⟨hn, -⟩
    · have e := val_one hs hv hu
      subst e
      exact ⟨v, 0, (vt_in hv).2.2, hr, he⟩
    · exact absurd hv (hn v)
  · rcases hq with ⟨u, hu, -⟩ | ⟨-, rfl⟩
    · exact absurd hu (hn u)
    · exact ⟨⟨0, 0, ⟨#[]⟩, 0⟩, 30, (by decide : (0 : Nat) < 18446744073709551616), hr, he⟩
theorem both_read (s : ByteArray) (hs : s.size ≤ 1000) : ∃ (l : List S24) (e : Int), (∀ v ∈ l, v.f3 < 18446744073709551616) ∧ l.length ≤ 3000 ∧ Ev (fun k => text_Read.f k s) (l, e) ∧ Ev (fun k => rialtoref4_Read.f k s) (l, e) := by
  obtain ⟨j, r, hj, hr⟩ := read_char s hs
  obtain ⟨k, q, hk, hq⟩ := ref_char s hs
  have h1 := ev_of (g := fun k => text_Read.f k s) (fun k => text_Read.mono _ k) hj
  have h2 := ev_of (g := fun k => rialtoref4_Read.f k s) (fun k => rialtoref4_Read.mono _ k) hk
  rcases hr with ⟨l, hl, rfl⟩ | ⟨hn, rfl⟩
  · rcases hq with ⟨m, hm, rfl⟩ | ⟨hn, -⟩
    · have e := good_one hl hm
      subst e
      exact ⟨l, 0, (good_in hl).1, (good_in hl).2, h1, h2⟩
    · exact absurd ⟨l, hl⟩ hn
  · rcases hq with ⟨m, hm, -⟩ | ⟨-, rfl⟩
    · exact absurd ⟨m, hm⟩ hn
    · exact ⟨[], 30, fun v hv => absurd hv (by simp), by decide, h1, h2⟩
theorem tells_j1 (s : ByteArray) (hs : s.size ≤ 1000) : Ev (fun k => rialtolaw4_TextTells.j1 k s false) true := by
  obtain ⟨v, e, hv, hp, K1, h1⟩ := both_parse s hs
  obtain ⟨l, f, hl, hz, ⟨K2, h2⟩, ⟨K3, h3⟩⟩ := both_read s hs
  refine ⟨K1 + K2 + K3 + 2 * l.length + 3, fun k hk => ?_⟩
  obtain ⟨d, rfl⟩ : ∃ d, k = d + 1 := ⟨k - 1, by omega⟩
  have g1 : rialtoref4_Parse.f d s = some (v.f0, v.f1, v.f2, v.f3, e) := h1 d (by omega)
  have g2 : text_Read.f d s = some (l, f) := h2 d (by omega)
  have g3 : rialtoref4_Read.f d s = some (l, f) := h3 d (by omega)
  have g4 := vals_self l hl (by omega) d (by omega)
  show rialtolaw4_TextTells.j1 (d + 1) s false = some true
  rw [rialtolaw4_TextTells.j1, if_neg (by decide), hp, Option.bind_some, g1, Option.bind_some, g2, Option.bind_some, g3, Option.bind_some]
  dsimp only
  rw [same_self _ _ _ _ hv, Option.bind_some, if_pos rfl, if_pos rfl, g4, Option.bind_some, if_pos rfl, beq_self_eq_true]
theorem tells_j0 (v : S24) (l : List S24) (s : ByteArray) (hv : In v) (hin : ∀ u ∈ l, In u) (hl : l.length ≤ 12) (hs : s.size ≤ 1000) : Ev (fun k => rialtolaw4_TextTells.j0 k l s false v.f0 v.f1 v.f2 v.f3) true := by
  obtain ⟨K1, h1⟩ := ev_print hv
  obtain ⟨k2, hk2⟩ := ref_row hin (by omega)
  obtain ⟨K2, h2⟩ := ev_of (g := fun k => rialtoref4_Row.f k l) (fun k => rialtoref4_Row.mono _ k) hk2
  obtain ⟨K3, h3⟩ := tells_j1 s hs
  refine ⟨K1 + K2 + K3 + 20, fun k hk => ?_⟩
  obtain ⟨d, rfl⟩ : ∃ d, k = d + 1 := ⟨k - 1, by omega⟩
  have g1 : rialtoref4_Print.f d v.f0 v.f1 v.f2 v.f3 = some (B (txt v)) := h1 d (by omega)
  have g2 : rialtoref4_Row.f d l = some (B (rowT (l.map txt))) := h2 d (by omega)
  have g3 : rialtolaw4_TextTells.j1 d s false = some true := h3 d (by omega)
  have g4 := row_any hin (by omega) d (by omega)
  show rialtolaw4_TextTells.j0 (d + 1) l s false v.f0 v.f1 v.f2 v.f3 = some true
  rw [rialtolaw4_TextTells.j0, if_neg (by decide), txt_print hv, Option.bind_some, g1, Option.bind_some, if_pos rfl, g4, Option.bind_some, g2, Option.bind_some, bne_self_eq_false]
  exact g3
theorem tells_skip (k : Nat) (v : S24) (l : List S24) (s : ByteArray) : rialtolaw4_TextTells.j0 (k + 1) l s true v.f0 v.f1 v.f2 v.f3 = some true := by
  rw [rialtolaw4_TextTells.j0, if_pos rfl]
theorem tells_is (v : S24) (l : List S24) (s : ByteArray) (hb : l.length ≤ 9223372036854775807) (hv : In v) (hin : ∀ u ∈ l, In u) : ∃ k, rialtolaw4_TextTells.f k v.f0 v.f1 v.f2 v.f3 l s = some true := by
  have hk : rialtolaw4_known.f = some true := rfl
  have one : ∀ n, 2 ≤ n → rialtohelp_Few.f n ([(⟨v.f0, v.f1, v.f2, v.f3⟩ : S24)] : List S24) 1 = some (fewB [⟨v.f0, v.f1, v.f2, v.f3⟩] 1) := fun n hn => few_is _ 1 (by rw [List.length_singleton]; decide) n (by rw [List.length_singleton]; exact hn)
  cases h1 : fewB [(⟨v.f0, v.f1, v.f2, v.f3⟩ : S24)] 1 with
  | false =>
    refine ⟨l.length + 3, ?_⟩
    unfold rialtolaw4_TextTells.f
    rw [hk, Option.bind_some, if_pos rfl, one _ (by omega), h1, Option.bind_some, if_neg (by decide)]
    exact tells_skip _ v l s
  | true =>
    cases h2 : fewB l 12 with
    | false =>
      refine ⟨l.length + 3, ?_⟩
      unfold rialtolaw4_TextTells.f
      rw [hk, Option.bind_some, if_pos rfl, one _ (by omega), h1, Option.bind_some, if_pos rfl, few_is l 12 hb _ (by omega), h2, Option.bind_some, if_neg (by decide)]
      exact tells_skip _ v l s
    | true =>
      have h12 : l.length ≤ 12 := by
        unfold fewB at h2
        rw [Bool.and_eq_true] at h2
        have := of_decide_eq_true h2.2
        omega
      by_cases hs : (s.size : Int) > 1000
      · refine ⟨l.length + 3, ?_⟩
        unfold rialtolaw4_TextTells.f
        rw [hk, Option.bind_some, if_pos rfl, one _ (by omega), h1, Option.bind_some, if_pos rfl, few_is l 12 hb _ (by omega), h2, Option.bind_some, if_pos rfl, decide_eq_true hs]
        exact tells_skip _ v l s
      · obtain ⟨K, hK⟩ := tells_j0 v l s hv hin h12 (by omega)
        refine ⟨K + l.length + 3, ?_⟩
        unfold rialtolaw4_TextTells.f
        rw [hk, Option.bind_some, if_pos rfl, one _ (by omega), h1, Option.bind_some, if_pos rfl, few_is l 12 hb _ (by omega), h2, Option.bind_some, if_pos rfl, decide_eq_false hs]
        exact hK _ (by omega)
end Go.Proofs.YtpjfhdbkkomogaaDoor.Mb
