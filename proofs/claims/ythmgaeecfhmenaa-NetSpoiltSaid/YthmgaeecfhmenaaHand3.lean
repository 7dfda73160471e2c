/- The document's example of chapter 05 is shown: the call returns true, and memory that was there is as it was. No condition. -/
import Derived.Test.YthmgaeecfhmenaaHand2
import Derived.Test.YthmgaeecfhmenaaPrint1
import Derived.Lib.SlBytesConst
namespace Go.Proofs.Ythmgaeecfhmenaa.Print
set_option linter.unusedVariables false
set_option linter.unusedSimpArgs false
open Go.RowKit Go.Proofs.YthmgaeecfhmenaaW.PrintWords Go.Proofs.YthmgaeecfhmenaaW.PrintLast Go.Proofs.YthmgaeecfhmenaaW.PrintMore
/-- A row that a literal makes, whatever of it is marked. -/
theorem lit_C (w : World) (xs : List Int) (cs : Array Value) (hcs : cs = (xs.map (Value.int .u8)).toArray) (n : Nat) (hn : xs.length = n) (hl : n ≤ 9223372036854775807) (t : TypeId) (fr : Nat × Nat) : Kd.C (Kd.int .u8) (w.alloc (.cells cs t fr)) (some ⟨w.heap.size, 0, none⟩) n xs := by
  subst hcs hn
  refine Kd.C_of_reads (enc := Value.int .u8) (d := (0 : Int)) (h1 := fun _ => rfl) ⟨rfl, hl, fun _ => ⟨_, rfl, fun j hj => ?_⟩⟩
  have h1 : (w.alloc (.cells (xs.map (Value.int .u8)).toArray t fr)).heap[w.heap.size]? = some (.cells (xs.map (Value.int .u8)).toArray t fr) := heap_alloc_new w _
  rw [add_plain]
  unfold World.cell?
  rw [h1]
  simp [List.getElem?_map, List.getElem?_eq_getElem hj, List.getD_eq_getElem?_getD]
def precentorlaw05_shown.f : Option Bool := some true
def exX : S29 := ⟨2, [97, 98], false⟩
def exY : S29 := ⟨2, [97, 99], true⟩
theorem ex_put : net_Put.f [] 2 [97, 98] = some [exX] := by unfold net_Put.f; rw [if_pos (by unfold limL lim2; decide)]; rfl
theorem ex_dup : net_Dup.f [exX] 0 = some ([exX, exX], 0) := by unfold net_Dup.f; rw [if_pos (by unfold limL; decide)]; rfl
theorem ex_drop : net_Drop.f [exX, exX] 0 = some ([exX], 0) := by unfold net_Drop.f net_Give.f; rw [if_pos (by unfold limL; decide)]; rfl
theorem ex_give : net_Give.f [exX] 0 = some (2, [97, 98], false, [], 0) := by unfold net_Give.f; rw [if_pos (by unfold limL; decide)]; rfl
theorem ex_spo : crc_Spoil.f [97, 98] 1 [1] = some [97, 99] := by decide +kernel
theorem ex_spoil : net_Spoil.f [exX] 0 1 [1] = some ([exY], 0) := by
  unfold net_Spoil.f
  rw [if_pos (by unfold limL; decide), if_pos (by decide), show (rd_T29 [exX] 0).f1 = [97, 98] from rfl, ex_spo, Option.bind_some, if_neg (by decide), if_neg (by decide +kernel)]
  rfl
theorem ex_drop2 : net_Drop.f [] 0 = some ([], 7) := by unfold net_Drop.f net_Give.f; rw [if_pos (by unfold limL; decide)]; rfl
theorem ex_all2 : net_All.f 4 [exX, exX] 2 = some [exX, exX] := by kernel_rfl
theorem ex_all1 : net_All.f 4 [exX, exX] 1 = some [] := by kernel_rfl
theorem ex_same : net_Same.f [exX] [exX] = some true := by decide +kernel
theorem ex_same2 : net_Same.f [exX] [exY] = some false := by decide +kernel
theorem ex_str : strOfNums [97, 98] = { data := #[97, 98] } := by decide +kernel
theorem ex_str2 : strOfNums [97, 99] = { data := #[97, 99] } := by decide +kernel
set_option maxHeartbeats 8000000 in
set_option maxRecDepth 100000 in
theorem precentorlaw05_shown.calls (r : Bool) (w : World) (h : precentorlaw05_shown.f = some r) :
    Calls Try.prog 9 #[] w fun e w' => e = .returned (.bool r) ∧ Below w.heap.size w w' := by
  obtain rfl := Option.some.inj h
  clear h
  have kc := fun (w : World) (C : Array Value) (n c : Nat) => Lib.run_convert_bytes_const (P := Try.prog) w 23 5 C n c Try.underlying23 Try.underlying5
  go_enter Try.func9, Try.ntmps9
  go_wp2_with fail
  refine (net_Put.calls (fun _ => False) none 0 [] 2 (some ⟨w.heap.size, 0, none⟩) 2 [97, 98] _ _ (Kd.V_nil _ _ _ _ _) (lit_C _ [97, 98] _ rfl 2 rfl (by decide) _ _) (by decide) ex_put).mono ?_
  rintro e w1 ⟨v1, rfl, ⟨A1, c1, rfl, hc1, hF1⟩, hb⟩
  have HB := Aside0.mk (below_step (below_alloc (Below.refl w.heap.size w) _) hb)
  have H1 := Aside0.mk (Kd.F_mono hF1 (fun _ _ => trivial : ∀ k, _ → (fun _ => True) k))
  have C1 := Lib.hid hc1
  clear hF1 hb hc1
  go_wp2_with fail
  refine (net_Dup.calls (fun _ => True) A1 c1 [exX] 0 _ _ _ (Kd.V_mk C1.out H1.out) ex_dup).mono ?_
  rintro e w2 ⟨v2, rfl, ⟨A2, c2, rfl, hc2, hF2⟩, hb⟩
  have n0_ := Aside0.mk (below_step HB.out hb)
  have n1_ := Aside0.mk (Kd.F_below H1.out hb)
  clear HB H1 hb
  have HB := n0_
  have H1 := n1_
  have H2 := Aside0.mk (Kd.F_mono hF2 (fun _ _ => trivial : ∀ k, _ → (fun _ => True) k))
  have C2 := Lib.hid hc2
  clear n0_ n1_ hF2 hc2
  go_wp2_with fail
  refine (net_Drop.calls (fun _ => True) A2 c2 [exX, exX] 0 _ _ _ (Kd.V_mk C2.out H2.out) ex_drop).mono ?_
  rintro e w3 ⟨v3, rfl, ⟨A3, c3, rfl, hc3, hF3⟩, hb⟩
  have n0_ := Aside0.mk (below_step HB.out hb)
  have n1_ := Aside0.mk (Kd.F_below H1.out hb)
  have n2_ := Aside0.mk (Kd.F_below H2.out hb)
  clear HB H1 H2 hb
  have HB := n0_
  have H1 := n1_
  have H2 := n2_
  have H3 := Aside0.mk (Kd.F_mono hF3 (fun _ _ => trivial : ∀ k, _ → (fun _ => True) k))
  have C3 := Lib.hid hc3
  clear n0_ n1_ n2_ hF3 hc3
  go_wp2_with fail
  refine (net_Give.calls (fun _ => True) A3 c3 [exX] 0 _ _ _ _ _ _ (Kd.V_mk C3.out H3.out) ex_give).mono ?_
  rintro e w4 ⟨v4, v5, rfl, ⟨A4, c4, rfl, hc4, hF4⟩, ⟨A5, c5, rfl, hc5, hF5⟩, hb⟩
  have n0_ := Aside0.mk (below_alloc (below_step HB.out hb) (Obj.cells #[.int .i64 2, .slice A4 2 c4, .bool false] 29))
  have n1_ := Aside0.mk (Kd.F_alloc (Kd.F_below H1.out hb) (Obj.cells #[.int .i64 2, .slice A4 2 c4, .bool false] 29))
  have n2_ := Aside0.mk (Kd.F_alloc (Kd.F_below H2.out hb) (Obj.cells #[.int .i64 2, .slice A4 2 c4, .bool false] 29))
  have n3_ := Aside0.mk (Kd.F_alloc (Kd.F_below H3.out hb) (Obj.cells #[.int .i64 2, .slice A4 2 c4, .bool false] 29))
  have n4_ := Aside0.mk (Kd.F_alloc hF4 (Obj.cells #[.int .i64 2, .slice A4 2 c4, .bool false] 29))
  clear HB H1 H2 H3 hb hF5 hF4
  have HB := n0_
  have H1 := n1_
  have H2 := n2_
  have H3 := n3_
  have H4 := n4_
  clear n0_ n1_ n2_ n3_ n4_
  go_wp2_with fail
  have hX := blk_new w4 (Obj.cells #[.int .i64 2, .slice A4 2 c4, .bool false] 29)
  have hz : (w4.alloc (Obj.cells #[.int .i64 2, .slice A4 2 c4, .bool false] 29)).heap.size = w4.heap.size + 1 := by simp
  generalize w4.alloc (Obj.cells #[.int .i64 2, .slice A4 2 c4, .bool false] 29) = w5 at *
  have hl2 := lit_C w5 [1] #[.int .u8 1] rfl 1 rfl (by decide) 5 (0, 0)
  rw [hz] at hl2
  have hb5 := below_alloc (Below.refl w5.heap.size w5) (Obj.cells #[.int .u8 1] 5)
  refine (net_Spoil.calls (fun _ => True) A1 c1 [exX] 0 1 (some ⟨w4.heap.size + 1, 0, none⟩) 1 [1] _ _ _ (Kd.V_mk C1.out (Kd.F_below H1.out hb5)) hl2 (by decide) ex_spoil).mono ?_
  rintro e w6 ⟨v6, rfl, ⟨A6, c6, rfl, hc6, hF6⟩, hb6⟩
  have hb := below_step hb5 hb6
  have n0_ := Aside0.mk (below_step HB.out hb)
  have n1_ := Aside0.mk (Kd.F_below H1.out hb)
  have n2_ := Aside0.mk (Kd.F_below H2.out hb)
  have n3_ := Aside0.mk (Kd.F_below H3.out hb)
  have n4_ := Aside0.mk (Kd.F_below H4.out hb)
  have n5_ := Aside0.mk (blk_below hX hb)
  clear HB H1 H2 H3 H4 hX hb5 hb6 hb hl2 hz
  have HB := n0_
  have H1 := n1_
  have H2 := n2_
  have H3 := n3_
  have H4 := n4_
  have HX := n5_
  have H6 := Aside0.mk (Kd.F_mono hF6 (fun _ _ => trivial : ∀ k, _ → (fun _ => True) k))
  have C6 := Lib.hid hc6
  clear n0_ n1_ n2_ n3_ n4_ n5_ hF6 hc6
  go_wp2_with fail
  refine (net_Drop.calls (fun _ => False) none 0 [] 0 _ _ _ (Kd.V_nil _ _ _ _ _) ex_drop2).mono ?_
  rintro e w7 ⟨v7, rfl, ⟨A7, c7, rfl, hc7, hF7⟩, hb⟩
  have n0_ := Aside0.mk (below_step HB.out hb)
  have n1_ := Aside0.mk (Kd.F_below H1.out hb)
  have n2_ := Aside0.mk (Kd.F_below H2.out hb)
  have n3_ := Aside0.mk (Kd.F_below H3.out hb)
  have n4_ := Aside0.mk (Kd.F_below H4.out hb)
  have n5_ := Aside0.mk (blk_below HX.out hb)
  have n6_ := Aside0.mk (Kd.F_below H6.out hb)
  clear HB H1 H2 H3 H4 H6 HX hb hc7 hF7
  have HB := n0_
  have H1 := n1_
  have H2 := n2_
  have H3 := n3_
  have H4 := n4_
  have HX := n5_
  have H6 := n6_
  clear n0_ n1_ n2_ n3_ n4_ n5_ n6_
  have hst := Kd.C_string (P := Try.prog) (A := A4) (c := c4) Try.underlying23 Try.underlying5 Try.underlying9 (Kd.F_now H4.out)
  rw [ex_str] at hst
  obtain ⟨ad6, A8, c8, rfl, s0, s1, s2, hl8, hF8⟩ := elem H6.out 0 (by decide)
  have hst2 := Kd.C_string (P := Try.prog) (A := A8) (c := c8) Try.underlying23 Try.underlying5 Try.underlying9 (Kd.F_now hF8)
  rw [show (rd_T29 [exY] ((0 : Nat) : Int)).f1 = [97, 99] from rfl] at hst2 s1
  rw [show (rd_T29 [exY] ((0 : Nat) : Int)).f2 = true from rfl] at s2
  rw [ex_str2] at hst2
  simp only [List.length_cons, List.length_nil, Nat.zero_add, Nat.reduceAdd, Nat.zero_mul] at hst hst2 s1 s2
  have ha0 : ad6.add 0 = ad6 := by unfold Addr.add; rw [if_pos rfl]
  rw [ha0] at s1 s2
  clear ha0
  have x0 := (blk_cell HX.out 0).trans (show _ = some (Value.int .i64 2) from rfl)
  have x1 := (blk_cell HX.out 1).trans (show _ = some (Value.slice A4 2 c4) from rfl)
  clear s0 hl8 hF8
  go_wp2_with fail
  clear hst hst2 s1 s2 x0 x1 H4 HX
  refine (net_All.calls 4 (fun _ => True) A2 c2 [exX, exX] 2 _ _ (Kd.V_mk C2.out H2.out) ex_all2).mono ?_
  rintro e w8 ⟨v8, rfl, hn, hb⟩
  obtain ⟨A9, c9, rfl⟩ := Kd.N_slice hn
  clear hn
  have n0_ := Aside0.mk (below_step HB.out hb)
  have n1_ := Aside0.mk (Kd.F_below H1.out hb)
  have n2_ := Aside0.mk (Kd.F_below H2.out hb)
  have n3_ := Aside0.mk (Kd.F_below H3.out hb)
  have n6_ := Aside0.mk (Kd.F_below H6.out hb)
  clear HB H1 H2 H3 H6 hb
  have HB := n0_
  have H1 := n1_
  have H2 := n2_
  have H3 := n3_
  have H6 := n6_
  clear n0_ n1_ n2_ n3_ n6_
  go_wp2_with fail
  refine (net_All.calls 4 (fun _ => True) A2 c2 [exX, exX] 1 _ _ (Kd.V_mk C2.out H2.out) ex_all1).mono ?_
  rintro e w9 ⟨v9, rfl, hn, hb⟩
  obtain ⟨A10, c10, rfl⟩ := Kd.N_slice hn
  clear hn
  have n0_ := Aside0.mk (below_step HB.out hb)
  have n1_ := Aside0.mk (Kd.F_below H1.out hb)
  have n2_ := Aside0.mk (Kd.F_below H2.out hb)
  have n3_ := Aside0.mk (Kd.F_below H3.out hb)
  have n6_ := Aside0.mk (Kd.F_below H6.out hb)
  clear HB H1 H2 H3 H6 hb
  have HB := n0_
  have H1 := n1_
  have H2 := n2_
  have H3 := n3_
  have H6 := n6_
  clear n0_ n1_ n2_ n3_ n6_
  go_wp2_with fail
  refine (net_Same.calls A1 c1 [exX] A3 c3 [exX] _ _ (Kd.F_now H1.out) C1.out (Kd.F_now H3.out) C3.out ex_same).mono ?_
  rintro e w10 ⟨rfl, hb⟩
  have n0_ := Aside0.mk (below_step HB.out hb)
  have n1_ := Aside0.mk (Kd.F_below H1.out hb)
  have n2_ := Aside0.mk (Kd.F_below H2.out hb)
  have n3_ := Aside0.mk (Kd.F_below H3.out hb)
  have n6_ := Aside0.mk (Kd.F_below H6.out hb)
  clear HB H1 H2 H3 H6 hb
  have HB := n0_
  have H1 := n1_
  have H2 := n2_
  have H3 := n3_
  have H6 := n6_
  clear n0_ n1_ n2_ n3_ n6_
  go_wp2_with fail
  refine (net_Same.calls A1 c1 [exX] (some ad6) c6 [exY] _ _ (Kd.F_now H1.out) C1.out (Kd.F_now H6.out) C6.out ex_same2).mono ?_
  rintro e w11 ⟨rfl, hb⟩
  have n0_ := Aside0.mk (below_step HB.out hb)
  clear HB hb
  go_wp2_with fail
  go_ret
  exact ⟨rfl, n0_.out⟩

end Go.Proofs.Ythmgaeecfhmenaa.Print
