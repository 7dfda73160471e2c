/- CrcBurst, the plain law. No condition. -/
import Derived.Test.YtpfoomdajgdbeaaSayCrcBurst
import Derived.Test.YtpfoomdajgdbeaaCrcPlain
namespace Go.Proofs.Ytpfoomdajgdbeaa.CrcBurstS
set_option linter.unusedVariables false
set_option linter.unusedSimpArgs false
open Go.RowKit Go.Proofs.Ytpfoomdajgdbeaa.Print Go.Proofs.Ytpfoomdajgdbeaa.Opens Go.Proofs.Ytpfoomdajgdbeaa.Crc Go.Proofs.Ytpfoomdajgdbeaa.CrcPlain
open Go.Proofs.YtpfoomdajgdbeaaW.PrintWords Go.Proofs.YtpfoomdajgdbeaaW.PrintLast

theorem parts (l : List Int) (p n : Nat) : l = l.take p ++ ((l.drop p).take n ++ l.drop (p + n)) := by
  rw [← List.drop_drop, List.take_append_drop, List.take_append_drop]
theorem getD_take (l : List Int) (p i : Nat) (h : i < p) : (l.take p).getD i 0 = l.getD i 0 := by
  rw [List.getD_eq_getElem?_getD, List.getElem?_take, if_pos h, ← List.getD_eq_getElem?_getD]
theorem getD_drop (l : List Int) (p i : Nat) : (l.drop p).getD i 0 = l.getD (p + i) 0 := by
  rw [List.getD_eq_getElem?_getD, List.getElem?_drop, ← List.getD_eq_getElem?_getD]
/-- What is sealed and spoilt, and differs, has another sum. -/
theorem spoilt {s b : List Int} (hs : Byt s) (hb : Byt b) (a : Int) (hne : spl s a b ≠ s) : raw (spl s a b) ≠ raw s := by
  intro hraw
  by_cases h : 0 ≤ a ∧ a < (s.length : Int)
  · have hn := spn_le s a.toNat b (by omega)
    have ht := spl_byt hs hb a
    have hg := spl_get b h
    generalize htt : spl s a b = t at *
    have hl : t.length = s.length := by rw [← htt, spl_length]
    generalize a.toNat = p at *
    generalize spn s p b = n at *
    have e1 : t.take p = s.take p := ext_getD (by rw [List.length_take, List.length_take, hl]) (fun i hi => by
      have hi2 : i < p := by rw [List.length_take] at hi; omega
      rw [getD_take _ _ _ hi2, getD_take _ _ _ hi2, hg, if_neg (by omega)])
    have e2 : t.drop (p + n) = s.drop (p + n) := ext_getD (by rw [List.length_drop, List.length_drop, hl]) (fun i _ => by
      rw [getD_drop, getD_drop, hg, if_neg (by omega)])
    have hp := parts s p n
    have hq := parts t p n
    rw [e1, e2] at hq
    have h3 : raw (s.take p ++ ((t.drop p).take n ++ s.drop (p + n))) = raw (s.take p ++ ((s.drop p).take n ++ s.drop (p + n))) := by rw [← hp, ← hq]; exact hraw
    have h4 := burst (hs.take p) ((ht.drop p).take n) ((hs.drop p).take n) (hs.drop _) (by rw [List.length_take, List.length_take, List.length_drop, List.length_drop, hl]) (by rw [List.length_take]; omega) h3
    rw [h4, ← hp] at hq
    exact hne hq
  · exact hne (by unfold spl; rw [if_neg h])
theorem plain : Pure := by
  intro l a b g0 g1 g2
  have h0 := by_of g0
  obtain ⟨w0, w1, w2, w3⟩ := g2
  have v0 := wf_u8 w0
  have v1 := wf_u8 w1
  have v2 := wf_u8 w2
  have v3 := wf_u8 w3
  refine ⟨0, ?_⟩
  unfold precentorlaw01_CrcBurst.f
  by_cases h : 2000 < l.length
  · rw [if_pos h]
  · rw [if_neg h, seal_is (by omega)]
    have hr := sumOf_range h0
    have hs : Byt (l ++ tl (sumOf l)) := h0.app (tl_byt _ hr.1)
    have hk := raw_seal h0
    have hlen : (l ++ tl (sumOf l)).length = l.length + 4 := by rw [List.length_append, tl_length]
    generalize l ++ tl (sumOf l) = s at *
    have hb : Byt [b.f0, b.f1, b.f2, b.f3] := fun x hx => by
      simp only [List.mem_cons, List.not_mem_nil, or_false] at hx
      omega
    simp only [Option.bind_some]
    rw [spoil_is (by omega)]
    simp only [Option.bind_some]
    show (if (strOfNums s).toList = (strOfNums (spl s a [b.f0, b.f1, b.f2, b.f3])).toList then _ else (crc_Open.f (spl s a [b.f0, b.f1, b.f2, b.f3])).bind fun o => if (spl s a [b.f0, b.f1, b.f2, b.f3]).length = s.length then (if o.2 = 3 then some true else none) else none) = some true
    have ht := spl_byt hs hb a
    have hl := spl_length s a [b.f0, b.f1, b.f2, b.f3]
    by_cases he : spl s a [b.f0, b.f1, b.f2, b.f3] = s
    · rw [if_pos ((str_eq hs ht).2 he.symm)]
      by_cases c1 : a < 0
      · rw [if_pos c1]
      · rw [if_neg c1]
        by_cases c2 : (s.length : Int) ≤ a
        · rw [if_pos c2]
        · rw [if_neg c2]
          have hin : 0 ≤ a ∧ a < (s.length : Int) := by omega
          have hg := spl_get [b.f0, b.f1, b.f2, b.f3] hin a.toNat
          rw [he, if_pos ⟨Nat.le_refl _, by unfold spn; simp only [List.length_cons, List.length_nil]; omega⟩, Nat.sub_self, show [b.f0, b.f1, b.f2, b.f3].getD 0 0 = b.f0 from rfl] at hg
          rw [if_pos (xor8_same (getD_byt hs a.toNat) (by omega) hg.symm)]
    · have hne := spoilt hs hb a he
      rw [if_neg (fun e => he ((str_eq hs ht).1 e).symm), open_is (by omega)]
      generalize spl s a [b.f0, b.f1, b.f2, b.f3] = t at *
      rw [if_neg (by omega), if_neg (fun e => hne (by
        rw [hk]
        have := (open_iff (ht.take (t.length - 4)) (ht.drop (t.length - 4)) (by rw [List.length_drop]; omega)).1 e
        rwa [List.take_append_drop] at this))]
      simp only [Option.bind_some]
      rw [if_pos hl, if_pos trivial]
end Go.Proofs.Ytpfoomdajgdbeaa.CrcBurstS
