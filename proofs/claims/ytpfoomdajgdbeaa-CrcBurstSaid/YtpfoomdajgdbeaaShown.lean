/- The document's example of chapter 01 is shown: the call returns true, and memory that was there is as it was. No condition. -/
import Derived.Test.YtpfoomdajgdbeaaHand
import Derived.Lib.SlBytesConst
namespace Go.Proofs.Ytpfoomdajgdbeaa.Print
set_option linter.unusedVariables false
set_option linter.unusedSimpArgs false
open Go.RowKit Go.Proofs.YtpfoomdajgdbeaaW.PrintWords Go.Proofs.YtpfoomdajgdbeaaW.PrintLast Go.Proofs.YtpfoomdajgdbeaaW.PrintMore Go.Proofs.Ytpfoomdajgdbeaa.Crc
/-- A row that a literal makes, whatever of it is marked. -/
theorem lit_C (w : World) (xs : List Int) (cs : Array Value) (hcs : cs = (xs.map (Value.int .u8)).toArray) (n : Nat) (hn : xs.length = n) (hl : n ≤ 9223372036854775807) (t : TypeId) (fr : Nat × Nat) : Kd.C (Kd.int .u8) (w.alloc (.cells cs t fr)) (some ⟨w.heap.size, 0, none⟩) n xs := by
  subst hcs hn
  refine Kd.C_of_reads (enc := Value.int .u8) (d := (0 : Int)) (h1 := fun _ => rfl) ⟨rfl, hl, fun _ => ⟨_, rfl, fun j hj => ?_⟩⟩
  have h1 : (w.alloc (.cells (xs.map (Value.int .u8)).toArray t fr)).heap[w.heap.size]? = some (.cells (xs.map (Value.int .u8)).toArray t fr) := heap_alloc_new w _
  rw [add_plain]
  unfold World.cell?
  rw [h1]
  simp [List.getElem?_map, List.getElem?_eq_getElem hj, List.getD_eq_getElem?_getD]
def precentorlaw01_shown.f : Option Bool := some true
theorem ex_seal : crc_Seal.f [97, 98, 99] = some ([97, 98, 99] ++ tl (sumOf [97, 98, 99])) := if_pos (by unfold lim2; decide)
theorem ex_open : crc_Open.f ([97, 98, 99] ++ tl (sumOf [97, 98, 99])) = some ([97, 98, 99], 0) := by decide +kernel
theorem ex_open2 : crc_Open.f [97, 98, 99] = some ([], 2) := by decide +kernel
theorem ex_open3 : crc_Open.f [97, 98, 99, 100] = some ([], 3) := by decide +kernel
theorem ex_sum : crc_Sum.f [49, 50, 51, 52, 53, 54, 55, 56, 57] = some 3421780262 := by decide +kernel
theorem ex_spoil : crc_Spoil.f [97, 98, 99] 1 [1] = some [97, 99, 99] := by decide +kernel
theorem ex_str : strOfNums [97, 98, 99] = { data := #[97, 98, 99] } := by decide +kernel
theorem ex_str2 : strOfNums [97, 99, 99] = { data := #[97, 99, 99] } := by decide +kernel
theorem precentorlaw01_shown.calls (r : Bool) (w : World) (h : precentorlaw01_shown.f = some r) :
    Calls Try.prog 10 #[] w fun e w' => e = .returned (.bool r) ∧ Below w.heap.size w w' := by
  obtain rfl := Option.some.inj h
  clear h
  have kc := fun (w : World) (C : Array Value) (n c : Nat) => Lib.run_convert_bytes_const (P := Try.prog) w 22 5 C n c Try.underlying22 Try.underlying5
  go_enter Try.func10, Try.ntmps10
  go_wp2_with fail
  refine (crc_Seal.calls (some ⟨w.heap.size, 0, none⟩) 3 [97, 98, 99] _ _ (lit_C _ [97, 98, 99] _ rfl 3 rfl (by decide) _ _) (by decide) ex_seal).mono ?_
  rintro e w1 ⟨v1, rfl, ho, hb⟩
  have HB := Aside0.mk (below_step (below_alloc (Below.refl w.heap.size w) _) hb)
  obtain ⟨A1, c1, rfl, hc1, hC1⟩ := Kd.R_reads ho
  clear ho hb
  have HC1 := Aside0.mk hC1
  clear hC1
  go_wp2_with fail
  refine (crc_Open.calls A1 c1 ([97, 98, 99] ++ tl (sumOf [97, 98, 99])) _ _ _ HC1.out hc1 ex_open).mono ?_
  rintro e w2 ⟨v2, rfl, ho, hb⟩
  have n0_ := Aside0.mk (below_step HB.out hb)
  clear HB
  have HB := n0_
  clear n0_
  obtain ⟨A2, c2, rfl, hc2, hC2⟩ := Kd.R_reads ho
  clear ho hb HC1 hc1
  have HC2 := Aside0.mk hC2
  clear hC2
  go_wp2_with fail
  refine (crc_Open.calls (some ⟨w2.heap.size, 0, none⟩) 3 [97, 98, 99] _ _ _ (lit_C _ [97, 98, 99] _ rfl 3 rfl (by decide) _ _) (by decide) ex_open2).mono ?_
  rintro e w3 ⟨v3, rfl, ho, hb⟩
  have n0_ := Aside0.mk (below_step (below_alloc HB.out _) hb)
  have n1_ := Aside0.mk (Kd.C_below (Kd.C_below HC2.out (below_alloc (Below.refl w2.heap.size w2) _)) hb)
  clear HB HC2
  have HB := n0_
  have HC2 := n1_
  clear n0_ n1_ ho hb
  go_wp2_with fail
  refine (crc_Open.calls (some ⟨w3.heap.size, 0, none⟩) 4 [97, 98, 99, 100] _ _ _ (lit_C _ [97, 98, 99, 100] _ rfl 4 rfl (by decide) _ _) (by decide) ex_open3).mono ?_
  rintro e w4 ⟨v4, rfl, ho, hb⟩
  have n0_ := Aside0.mk (below_step (below_alloc HB.out _) hb)
  have n1_ := Aside0.mk (Kd.C_below (Kd.C_below HC2.out (below_alloc (Below.refl w3.heap.size w3) _)) hb)
  clear HB HC2
  have HB := n0_
  have HC2 := n1_
  clear n0_ n1_ ho hb
  go_wp2_with fail
  refine (crc_Sum.calls (some ⟨w4.heap.size, 0, none⟩) 9 [49, 50, 51, 52, 53, 54, 55, 56, 57] _ _ (lit_C _ [49, 50, 51, 52, 53, 54, 55, 56, 57] _ rfl 9 rfl (by decide) _ _) (by decide) ex_sum).mono ?_
  rintro e w5 ⟨rfl, hd⟩
  have hb := hd.below
  have n0_ := Aside0.mk (below_step (below_alloc HB.out _) hb)
  have n1_ := Aside0.mk (Kd.C_below (Kd.C_below HC2.out (below_alloc (Below.refl w4.heap.size w4) _)) hb)
  clear HB HC2
  have HB := n0_
  have HC2 := n1_
  clear n0_ n1_ hb hd
  have hst := Kd.C_string (P := Try.prog) (A := A2) (c := c2) Try.underlying22 Try.underlying5 Try.underlying9 HC2.out
  rw [ex_str] at hst
  simp only [List.length_cons, List.length_nil, Nat.zero_add, Nat.reduceAdd] at hst
  go_wp2_with fail
  have hl1 := lit_C w5 [97, 98, 99] #[.int .u8 97, .int .u8 98, .int .u8 99] rfl 3 rfl (by decide) 5 (3, 4)
  generalize hw6 : w5.alloc (Obj.cells #[.int .u8 97, .int .u8 98, .int .u8 99] 5 (3, 4)) = w6 at *
  have hz : w6.heap.size = w5.heap.size + 1 := by rw [← hw6]; simp
  have hl2 := lit_C w6 [1] #[.int .u8 1] rfl 1 rfl (by decide) 5 (0, 0)
  rw [hz] at hl2
  have n0_ := Aside0.mk (below_alloc (hw6 ▸ below_alloc HB.out _ : Below w.heap.size w w6) (.cells #[.int .u8 1] 5))
  have hl3 := Kd.C_below hl1 (below_alloc (Below.refl w6.heap.size w6) (.cells #[.int .u8 1] 5))
  generalize w6.alloc (Obj.cells #[.int .u8 1] 5) = w7 at *
  clear hl1 HB hst HC2 hw6 hz
  have HB := n0_
  clear n0_
  refine (crc_Spoil.calls (fun k => k < w7.heap.size) (some ⟨w5.heap.size, 0, none⟩) 3 [97, 98, 99] 1 (some ⟨w5.heap.size + 1, 0, none⟩) 1 [1] _ _ (Kd.V_mk (by decide) (Kd.C_F (Kd.heap_int .u8) hl3)) hl2 (by decide) ex_spoil).mono ?_
  rintro e w8 ⟨v5, rfl, ho, hb⟩
  have n0_ := Aside0.mk (below_step HB.out hb)
  clear HB hl2 hl3
  have HB := n0_
  clear n0_ hb
  have hst := V_string (P := Try.prog) Try.underlying22 Try.underlying5 Try.underlying9 ho
  rw [ex_str2] at hst
  clear ho
  go_wp2_with fail
  go_ret
  exact ⟨rfl, HB.out⟩
end Go.Proofs.Ytpfoomdajgdbeaa.Print
