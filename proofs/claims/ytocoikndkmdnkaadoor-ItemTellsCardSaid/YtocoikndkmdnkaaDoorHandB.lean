/- An item's bytes by the document: the same Lean function as the program's, and that each call does just that. Conditions stand in each theorem. -/
import Derived.Test.YtocoikndkmdnkaaDoorHand8
import Derived.Test.YtocoikndkmdnkaaDoorHandR
namespace Go.Proofs.YtocoikndkmdnkaaDoor.Print
set_option linter.unusedVariables false
set_option linter.unusedSimpArgs false
open Go.RowKit Go.Proofs.YtocoikndkmdnkaaDoorW.PrintWords Go.Proofs.YtocoikndkmdnkaaDoorW.PrintLast Go.Proofs.YtocoikndkmdnkaaDoorW.PrintMore Go.Proofs.YtocoikndkmdnkaaDoor.NumPlain

theorem rputrow {W : Int} {l p : List Int} (hl : l.length < 10000) (hf : Fa l W) (hp : flat W l = p) : precentorref02_PutRow.f (l.length + 10) l W = some p := by
  rw [rputrow_is hl (Nat.le_refl _), putrow_is hl (Nat.le_refl _), if_pos hf, hp]
def BytesG (w0 : World) (g : Nat) (x : Int) (A : Option Addr) (c : Nat) (p : List Int) (w' : World) : Prop :=
  O8 w' w0.heap.size (.slice (some ⟨g, 0, none⟩) 1 1) [x] ∧ p.length ≤ c ∧ Kd.C (Kd.int .u8) w' A p.length p ∧ Below w0.heap.size w0 w'
set_option maxRecDepth 100000 in
set_option maxHeartbeats 4000000 in
theorem precentorref03_Bytes.yes (k s e i t c : Int) (A6 : Option Addr) (c6 : Nat) (L : List Int) (A7 : Option Addr) (c7 : Nat) (bo : List Int) (w : World) (hr6 : Kd.C (Kd.int .i64) w A6 L.length L) (hc6 : L.length ≤ c6) (hr7 : Kd.C (Kd.int .u8) w A7 bo.length bo) (hc7 : bo.length ≤ c7) (hL : L.length < 10000) (hbo : bo.length < 100000000) (hm : mayB k s e i t c L bo.length = true) :
    Calls Tryd.prog 18 #[.agg #[.int .i64 k, .int .i64 s, .int .i64 e, .int .i64 i, .int .i64 t, .int .i64 c, .slice A6 L.length c6, .slice A7 bo.length c7]] w (BytesPost w (bytesOf k s e i t c L bo)) := by
  obtain ⟨hk, hs, he⟩ := mayB_head hm
  obtain ⟨w0, hw0, hB0, hs0, X0⟩ := boxed1 w (.int .i64 k) (.int .i64 s) (.int .i64 e) (.int .i64 i) (.int .i64 t) (.int .i64 c) (.slice A6 L.length c6) (.slice A7 bo.length c7)
  obtain ⟨⟨q0, q1, q2, q3, q4, q5, q6, q7⟩, _⟩ := cells8 X0
  have HB0 := Aside0.mk hB0
  have HMAY := Lib.hid (precentorref03_May.is k s e i t c A6 c6 L A7 c7 bo w0 (Kd.C_below hr6 hB0) hc6 hL true hm)
  have HR6 := Aside0.mk (Kd.C_below hr6 hB0)
  have HR7 := Aside0.mk (Kd.C_below hr7 hB0)
  have HL := Lib.hid hL
  have HBO := Lib.hid hbo
  have HMM := Lib.hid hm
  have HC6 := Lib.hid hc6
  obtain ⟨p, hp⟩ : ∃ p, flat 8 [s, e] = p := ⟨_, rfl⟩
  have HP := Lib.hid (rputrow (W := 8) (l := [s, e]) (p := p) (by simp) (by
    intro x hx
    rcases List.mem_cons.1 hx with rfl | hx
    · exact ⟨Or.inr (Or.inr rfl), by omega, hs.2⟩
    · obtain rfl := List.mem_singleton.1 hx; exact ⟨Or.inr (Or.inr rfl), he⟩) hp)
  have HPL := Lib.hid (show p.length = 16 by rw [← hp, flat_length]; rfl)
  have HH := Lib.hid (show headOf k s e = [IntKind.u8.wrap k] ++ p by rw [← hp]; unfold headOf flat; simp [enc, u8w])
  clear X0 hB0 hr6 hr7 hL hbo hm hc6 hc7 hp hs he hs0
  go_enter Tryd.func18, Tryd.ntmps18
  go_wp2_with fail
  refine HMAY.out.mono ?_
  rintro e1 w1 ⟨rfl, hb⟩
  have HBq := Aside0.mk hb
  clear hb hw0
  go_wp2_with fail
  refine start_ (n := 12) (S := fun w' => w'.cell? ⟨w.heap.size, 0, none⟩ = some (.int .i64 k) ∧ w'.cell? ⟨w.heap.size, 1, none⟩ = some (.int .i64 s) ∧ w'.cell? ⟨w.heap.size, 2, none⟩ = some (.int .i64 e)) (ds := []) #[false, false, false, false, false, false, false, false, false, false, false, false] (by kernel_rfl) rfl rfl ⟨pw_cell_below (below_drew1 HBq.out) q0, pw_cell_below (below_drew1 HBq.out) q1, pw_cell_below (below_drew1 HBq.out) q2⟩ (fun hHeld => ?_)
  have n0_ := Aside0.mk (below_drew1 HBq.out)
  clear HBq
  have HBq := n0_
  clear n0_
  generalize hw2_ : w1.drew = w2 at *
  clear hw2_
  refine pure_ (i := 0) (N := some 9) (v := ?_) (a' := ?_) #[true, false, false, false, false, false, false, false, false, false, false, false] rfl rfl (by kernel_rfl) (fun _ _ _ h => h) (Or.inl ⟨by rfl, ?_⟩) ?_ ?_
  rotate_left
  · intro w'
    go_simp
    with_reducible rfl
  rotate_left
  · simp only [Act.put, List.setIfInBounds_toArray, List.set_cons_zero, List.set_cons_succ, i64_w, i32_w]
    rfl
  refine pure_ (i := 4) (N := some 13) (v := ?_) (a' := ?_) #[true, false, false, false, true, false, false, false, false, false, false, false] rfl rfl (by kernel_rfl) (fun _ _ _ h => h) (Or.inl ⟨by rfl, ?_⟩) ?_ ?_
  rotate_left
  · intro w'
    go_simp
    with_reducible rfl
  rotate_left
  · simp only [Act.put, List.setIfInBounds_toArray, List.set_cons_zero, List.set_cons_succ, i64_w, i32_w]
    rfl
  refine pure_ (i := 6) (N := some 15) (v := ?_) (a' := ?_) #[true, false, false, false, true, false, true, false, false, false, false, false] rfl rfl (by kernel_rfl) (fun _ _ _ h => h) (Or.inl ⟨by rfl, ?_⟩) ?_ ?_
  rotate_left
  · intro w'
    go_simp
    with_reducible rfl
  rotate_left
  · simp only [Act.put, List.setIfInBounds_toArray, List.set_cons_zero, List.set_cons_succ, i64_w, i32_w]
    rfl
  refine take_ (i := 1) (N := some 10) (v := ?_) (a' := ?_) #[true, true, false, false, true, false, true, false, false, false, false, false] rfl rfl (by kernel_rfl) (fun _ _ _ h => h) (Or.inl ⟨by rfl, ?_⟩) hHeld ?_ ?_
  rotate_left
  · rintro w' ⟨s0, s1, s2⟩
    go_simp
    with_reducible rfl
  rotate_left
  · simp only [Act.put, List.setIfInBounds_toArray, List.set_cons_zero, List.set_cons_succ, i64_w, i32_w]
    rfl
  refine pure_ (i := 2) (N := some 11) (v := ?_) (a' := ?_) #[true, true, true, false, true, false, true, false, false, false, false, false] rfl rfl (by kernel_rfl) (fun _ _ _ h => h) (Or.inl ⟨by rfl, ?_⟩) ?_ ?_
  rotate_left
  · intro w'
    go_simp
    with_reducible rfl
  rotate_left
  · simp only [Act.put, List.setIfInBounds_toArray, List.set_cons_zero, List.set_cons_succ, i64_w, i32_w]
    rfl
  refine take_ (i := 5) (N := some 14) (v := ?_) (a' := ?_) #[true, true, true, false, true, true, true, false, false, false, false, false] rfl rfl (by kernel_rfl) (fun _ _ _ h => h) (Or.inl ⟨by rfl, ?_⟩) hHeld ?_ ?_
  rotate_left
  · rintro w' ⟨s0, s1, s2⟩
    go_simp
    with_reducible rfl
  rotate_left
  · simp only [Act.put, List.setIfInBounds_toArray, List.set_cons_zero, List.set_cons_succ, i64_w, i32_w]
    rfl
  refine take_ (i := 7) (N := some 16) (v := ?_) (a' := ?_) #[true, true, true, false, true, true, true, true, false, false, false, false] rfl rfl (by kernel_rfl) (fun _ _ _ h => h) (Or.inl ⟨by rfl, ?_⟩) hHeld ?_ ?_
  rotate_left
  · rintro w' ⟨s0, s1, s2⟩
    go_simp
    with_reducible rfl
  rotate_left
  · simp only [Act.put, List.setIfInBounds_toArray, List.set_cons_zero, List.set_cons_succ, i64_w, i32_w]
    rfl
  refine join_ (σ := Nat × Nat × Option Addr × Nat) 2 #[true, true, true, true, true, true, true, true, true, true, false, false] (fun s_ => [(12, .slice (some ⟨s_.1, 0, none⟩) 1 1), (17, .slice (some ⟨s_.2.1, 0, none⟩) 2 2), (18, .slice s_.2.2.1 p.length s_.2.2.2)]) (fun s_ w2_ => (w2_.cell? ⟨w.heap.size, 0, none⟩ = some (.int .i64 k) ∧ w2_.cell? ⟨w.heap.size, 1, none⟩ = some (.int .i64 s) ∧ w2_.cell? ⟨w.heap.size, 2, none⟩ = some (.int .i64 e)) ∧ BytesG w0 s_.1 (IntKind.u8.wrap k) s_.2.2.1 s_.2.2.2 p w2_) ?_ ?_
  rotate_left
  · intro hCont
    refine two_ (i := 3) (j := 8) (Ni := some 12) (Nj := some 17) #[true, true, true, true, true, true, true, true, false, false, false, false] #[true, true, true, false, true, true, true, true, true, false, false, false] rfl rfl rfl rfl (by kernel_rfl) (by decide) (by decide) (fun K hK => ?_) (fun K hK => ?_)
    · skip
      refine value_ (w1 := ?_) (v := ?_) (by rfl) rfl ?_ ?_
      rotate_left 2
      · go_simp
        constructor
        · rfl
        · rfl
      have hb := below_alloc (Below.refl w2.heap.size w2) (Obj.cells #[.int .u8 (IntKind.u8.wrap k)] 5)
      have HO12 := Aside0.mk (O8.lit (blk_new w2 (Obj.cells #[.int .u8 (IntKind.u8.wrap k)] 5)) HBq.out.size [IntKind.u8.wrap k] (by simp) rfl)
      have n0_ := Aside0.mk (below_step HBq.out hb)
      clear HBq hb
      have HBq := n0_
      clear n0_
      generalize hgl_ : w2.alloc (Obj.cells #[.int .u8 (IntKind.u8.wrap k)] 5) = w3 at *
      clear hgl_
      generalize w2.heap.size = g12 at *
      refine hK.out _ _ ⟨pw_cell_below HBq.out q0, pw_cell_below HBq.out q1, pw_cell_below HBq.out q2⟩ (fun hHeld => ?_)
      clear hK K
      refine norm_ (a' := ?_) ?_ ?_
      rotate_left
      · show Act.put _ (some 12) _ = _
        simp only [Act.put, List.setIfInBounds_toArray, List.set_cons_zero, List.set_cons_succ, i64_w, i32_w]
        rfl
      refine one_ (i := 8) (N := some 17) #[true, true, true, true, true, true, true, true, true, false, false, false] rfl rfl (by kernel_rfl) (by decide) (fun K hK => ?_)
      refine value_ (w1 := ?_) (v := ?_) (by rfl) rfl ?_ ?_
      rotate_left 2
      · go_simp
        constructor
        · rfl
        · rfl
      have hb := below_alloc (Below.refl w3.heap.size w3) (Obj.cells #[.int .i64 s, .int .i64 e] 3)
      have n1_ := Aside0.mk (O8.below HO12.out hb)
      clear HO12
      have HO12 := n1_
      clear n1_
      have HC17 := Aside0.mk (Kd.C_lit64 (blk_new w3 (Obj.cells #[.int .i64 s, .int .i64 e] 3)) [s, e] (by simp) rfl)
      have n0_ := Aside0.mk (below_step HBq.out hb)
      clear HBq hb
      have HBq := n0_
      clear n0_
      generalize hgl_ : w3.alloc (Obj.cells #[.int .i64 s, .int .i64 e] 3) = w5 at *
      clear hgl_
      generalize w3.heap.size = g17 at *
      refine hK.out _ _ ⟨pw_cell_below HBq.out q0, pw_cell_below HBq.out q1, pw_cell_below HBq.out q2⟩ (fun hHeld => ?_)
      clear hK K
      refine norm_ (a' := ?_) ?_ ?_
      rotate_left
      · show Act.put _ (some 17) _ = _
        simp only [Act.put, List.setIfInBounds_toArray, List.set_cons_zero, List.set_cons_succ, i64_w, i32_w]
        rfl
      refine one_ (i := 9) (N := some 18) #[true, true, true, true, true, true, true, true, true, true, false, false] rfl rfl (by kernel_rfl) (by decide) (fun K hK => ?_)
      have HCT := Lib.hid (show Calls Tryd.prog 33 #[.slice (some ⟨g17, 0, none⟩) 2 2, .int .i64 8] w5 _ from precentorref02_PutRow.calls 12 (some ⟨g17, 0, none⟩) 2 [s, e] 8 p w5 HC17.out (Nat.le_refl _) HP.out)
      refine goes_ Tryd.func33 (by kernel_rfl) rfl #[.slice (some ⟨g17, 0, none⟩) 2 2, .int .i64 8] (by rfl) rfl rfl (by simp only [List.map_toArray, List.map_cons, List.map_nil]; rfl) ?_
      with_reducible refine (HCT.out).mono ?_
      rintro e0 w8 ⟨v18, rfl, hr, hb⟩
      refine ⟨_, rfl, ?_⟩
      obtain ⟨A18, c18, rfl, hl18, hC18⟩ := Kd.R_reads hr
      have HL18 := Lib.hid hl18
      clear hr hl18 HCT
      have n1_ := Aside0.mk (O8.below HO12.out hb)
      clear HO12
      have HO12 := n1_
      clear n1_
      have n1_ := Aside0.mk (Kd.C_below HC17.out hb)
      clear HC17
      have HC17 := n1_
      clear n1_
      have HC18 := Aside0.mk hC18
      clear hC18
      have n0_ := Aside0.mk (below_step HBq.out hb)
      clear HBq hb
      have HBq := n0_
      clear n0_
      refine hK.out _ _ ⟨pw_cell_below HBq.out q0, pw_cell_below HBq.out q1, pw_cell_below HBq.out q2⟩ (fun hHeld => ?_)
      clear hK K
      refine norm_ (a' := ?_) ?_ ?_
      rotate_left
      · show Act.put _ (some 18) _ = _
        simp only [Act.put, List.setIfInBounds_toArray, List.set_cons_zero, List.set_cons_succ, i64_w, i32_w]
        rfl
      exact norm_ (by simp only [putAll, Act.put, List.setIfInBounds_toArray, List.set_cons_zero, List.set_cons_succ]) (hCont (g12, g17, A18, c18) _ ⟨hHeld, HO12.out, HL18.out, HC18.out, HBq.out⟩)
    · skip
      refine value_ (w1 := ?_) (v := ?_) (by rfl) rfl ?_ ?_
      rotate_left 2
      · go_simp
        constructor
        · rfl
        · rfl
      have hb := below_alloc (Below.refl w2.heap.size w2) (Obj.cells #[.int .i64 s, .int .i64 e] 3)
      have HC17 := Aside0.mk (Kd.C_lit64 (blk_new w2 (Obj.cells #[.int .i64 s, .int .i64 e] 3)) [s, e] (by simp) rfl)
      have n0_ := Aside0.mk (below_step HBq.out hb)
      clear HBq hb
      have HBq := n0_
      clear n0_
      generalize hgl_ : w2.alloc (Obj.cells #[.int .i64 s, .int .i64 e] 3) = w4 at *
      clear hgl_
      generalize w2.heap.size = g17 at *
      refine hK.out _ _ ⟨pw_cell_below HBq.out q0, pw_cell_below HBq.out q1, pw_cell_below HBq.out q2⟩ (fun hHeld => ?_)
      clear hK K
      refine norm_ (a' := ?_) ?_ ?_
      rotate_left
      · show Act.put _ (some 17) _ = _
        simp only [Act.put, List.setIfInBounds_toArray, List.set_cons_zero, List.set_cons_succ, i64_w, i32_w]
        rfl
      refine two_ (i := 3) (j := 9) (Ni := some 12) (Nj := some 18) #[true, true, true, true, true, true, true, true, true, false, false, false] #[true, true, true, false, true, true, true, true, true, true, false, false] rfl rfl rfl rfl (by kernel_rfl) (by decide) (by decide) (fun K hK => ?_) (fun K hK => ?_)
      · skip
        refine value_ (w1 := ?_) (v := ?_) (by rfl) rfl ?_ ?_
        rotate_left 2
        · go_simp
          constructor
          · rfl
          · rfl
        have hb := below_alloc (Below.refl w4.heap.size w4) (Obj.cells #[.int .u8 (IntKind.u8.wrap k)] 5)
        have n1_ := Aside0.mk (Kd.C_below HC17.out hb)
        clear HC17
        have HC17 := n1_
        clear n1_
        have HO12 := Aside0.mk (O8.lit (blk_new w4 (Obj.cells #[.int .u8 (IntKind.u8.wrap k)] 5)) HBq.out.size [IntKind.u8.wrap k] (by simp) rfl)
        have n0_ := Aside0.mk (below_step HBq.out hb)
        clear HBq hb
        have HBq := n0_
        clear n0_
        generalize hgl_ : w4.alloc (Obj.cells #[.int .u8 (IntKind.u8.wrap k)] 5) = w6 at *
        clear hgl_
        generalize w4.heap.size = g12 at *
        refine hK.out _ _ ⟨pw_cell_below HBq.out q0, pw_cell_below HBq.out q1, pw_cell_below HBq.out q2⟩ (fun hHeld => ?_)
        clear hK K
        refine norm_ (a' := ?_) ?_ ?_
        rotate_left
        · show Act.put _ (some 12) _ = _
          simp only [Act.put, List.setIfInBounds_toArray, List.set_cons_zero, List.set_cons_succ, i64_w, i32_w]
          rfl
        refine one_ (i := 9) (N := some 18) #[true, true, true, true, true, true, true, true, true, true, false, false] rfl rfl (by kernel_rfl) (by decide) (fun K hK => ?_)
        have HCT := Lib.hid (show Calls Tryd.prog 33 #[.slice (some ⟨g17, 0, none⟩) 2 2, .int .i64 8] w6 _ from precentorref02_PutRow.calls 12 (some ⟨g17, 0, none⟩) 2 [s, e] 8 p w6 HC17.out (Nat.le_refl _) HP.out)
        refine goes_ Tryd.func33 (by kernel_rfl) rfl #[.slice (some ⟨g17, 0, none⟩) 2 2, .int .i64 8] (by rfl) rfl rfl (by simp only [List.map_toArray, List.map_cons, List.map_nil]; rfl) ?_
        with_reducible refine (HCT.out).mono ?_
        rintro e0 w9 ⟨v18, rfl, hr, hb⟩
        refine ⟨_, rfl, ?_⟩
        obtain ⟨A18, c18, rfl, hl18, hC18⟩ := Kd.R_reads hr
        have HL18 := Lib.hid hl18
        clear hr hl18 HCT
        have n1_ := Aside0.mk (O8.below HO12.out hb)
        clear HO12
        have HO12 := n1_
        clear n1_
        have n1_ := Aside0.mk (Kd.C_below HC17.out hb)
        clear HC17
        have HC17 := n1_
        clear n1_
        have HC18 := Aside0.mk hC18
        clear hC18
        have n0_ := Aside0.mk (below_step HBq.out hb)
        clear HBq hb
        have HBq := n0_
        clear n0_
        refine hK.out _ _ ⟨pw_cell_below HBq.out q0, pw_cell_below HBq.out q1, pw_cell_below HBq.out q2⟩ (fun hHeld => ?_)
        clear hK K
        refine norm_ (a' := ?_) ?_ ?_
        rotate_left
        · show Act.put _ (some 18) _ = _
          simp only [Act.put, List.setIfInBounds_toArray, List.set_cons_zero, List.set_cons_succ, i64_w, i32_w]
          rfl
        exact norm_ (by simp only [putAll, Act.put, List.setIfInBounds_toArray, List.set_cons_zero, List.set_cons_succ]) (hCont (g12, g17, A18, c18) _ ⟨hHeld, HO12.out, HL18.out, HC18.out, HBq.out⟩)
      · skip
        have HCT := Lib.hid (show Calls Tryd.prog 33 #[.slice (some ⟨g17, 0, none⟩) 2 2, .int .i64 8] w4 _ from precentorref02_PutRow.calls 12 (some ⟨g17, 0, none⟩) 2 [s, e] 8 p w4 HC17.out (Nat.le_refl _) HP.out)
        refine goes_ Tryd.func33 (by kernel_rfl) rfl #[.slice (some ⟨g17, 0, none⟩) 2 2, .int .i64 8] (by rfl) rfl rfl (by simp only [List.map_toArray, List.map_cons, List.map_nil]; rfl) ?_
        with_reducible refine (HCT.out).mono ?_
        rintro e0 w7 ⟨v18, rfl, hr, hb⟩
        refine ⟨_, rfl, ?_⟩
        obtain ⟨A18, c18, rfl, hl18, hC18⟩ := Kd.R_reads hr
        have HL18 := Lib.hid hl18
        clear hr hl18 HCT
        have n1_ := Aside0.mk (Kd.C_below HC17.out hb)
        clear HC17
        have HC17 := n1_
        clear n1_
        have HC18 := Aside0.mk hC18
        clear hC18
        have n0_ := Aside0.mk (below_step HBq.out hb)
        clear HBq hb
        have HBq := n0_
        clear n0_
        refine hK.out _ _ ⟨pw_cell_below HBq.out q0, pw_cell_below HBq.out q1, pw_cell_below HBq.out q2⟩ (fun hHeld => ?_)
        clear hK K
        refine norm_ (a' := ?_) ?_ ?_
        rotate_left
        · show Act.put _ (some 18) _ = _
          simp only [Act.put, List.setIfInBounds_toArray, List.set_cons_zero, List.set_cons_succ, i64_w, i32_w]
          rfl
        refine one_ (i := 3) (N := some 12) #[true, true, true, true, true, true, true, true, true, true, false, false] rfl rfl (by kernel_rfl) (by decide) (fun K hK => ?_)
        refine value_ (w1 := ?_) (v := ?_) (by rfl) rfl ?_ ?_
        rotate_left 2
        · go_simp
          constructor
          · rfl
          · rfl
        have hb := below_alloc (Below.refl w7.heap.size w7) (Obj.cells #[.int .u8 (IntKind.u8.wrap k)] 5)
        have n1_ := Aside0.mk (Kd.C_below HC18.out hb)
        clear HC18
        have HC18 := n1_
        clear n1_
        have HO12 := Aside0.mk (O8.lit (blk_new w7 (Obj.cells #[.int .u8 (IntKind.u8.wrap k)] 5)) HBq.out.size [IntKind.u8.wrap k] (by simp) rfl)
        have n0_ := Aside0.mk (below_step HBq.out hb)
        clear HBq hb
        have HBq := n0_
        clear n0_
        generalize hgl_ : w7.alloc (Obj.cells #[.int .u8 (IntKind.u8.wrap k)] 5) = w10 at *
        clear hgl_
        generalize w7.heap.size = g12 at *
        refine hK.out _ _ ⟨pw_cell_below HBq.out q0, pw_cell_below HBq.out q1, pw_cell_below HBq.out q2⟩ (fun hHeld => ?_)
        clear hK K
        refine norm_ (a' := ?_) ?_ ?_
        rotate_left
        · show Act.put _ (some 12) _ = _
          simp only [Act.put, List.setIfInBounds_toArray, List.set_cons_zero, List.set_cons_succ, i64_w, i32_w]
          rfl
        exact norm_ (by simp only [putAll, Act.put, List.setIfInBounds_toArray, List.set_cons_zero, List.set_cons_succ]) (hCont (g12, g17, A18, c18) _ ⟨hHeld, HO12.out, HL18.out, HC18.out, HBq.out⟩)
  rintro ⟨g12, g17, A18, c18⟩ w11 ⟨hS_, hD_⟩
  have hHeld := hS_
  have HD := Aside0.mk hD_
  clear hS_ hD_
  refine norm_ (a' := ?_) ?_ ?_
  rotate_left
  · simp only [putAll, Act.put, List.setIfInBounds_toArray, List.set_cons_zero, List.set_cons_succ]
    rfl
  refine one_ (i := 10) (N := some 19) #[true, true, true, true, true, true, true, true, true, true, true, false] rfl rfl (by kernel_rfl) (by decide) (fun K hK => ?_)
  refine ap8_step (w0 := w0) (b := w0.heap.size) (by rfl) rfl rfl rfl HD.out.1 HD.out.2.2.1 HD.out.2.2.2 HD.out.2.2.2.size (by have := HPL.out; simp; omega) ?_
  intro v7 w12 ho hb
  have HO := Aside0.mk ho
  have HBq := Aside0.mk hb
  clear ho hb
  refine hK.out _ _ ⟨pw_cell_below HBq.out q0, pw_cell_below HBq.out q1, pw_cell_below HBq.out q2⟩ (fun hHeld => ?_)
  clear hK K
  refine norm_ (a' := ?_) ?_ ?_
  rotate_left
  · show Act.put _ (some 19) _ = _
    simp only [Act.put, List.setIfInBounds_toArray, List.set_cons_zero, List.set_cons_succ, i64_w, i32_w]
    rfl
  refine pure_ (i := 11) (N := some 4) (v := ?_) (a' := ?_) #[true, true, true, true, true, true, true, true, true, true, true, true] rfl rfl (by kernel_rfl) (fun _ _ _ h => h) (Or.inl ⟨by rfl, ?_⟩) ?_ ?_
  rotate_left
  · intro w'
    go_simp
    with_reducible rfl
  rotate_left
  · simp only [Act.put, List.setIfInBounds_toArray, List.set_cons_zero, List.set_cons_succ, i64_w, i32_w]
    rfl
  refine done_ (by kernel_rfl) ?_

  clear hHeld HD
  obtain ⟨hd, hhd⟩ : ∃ hd, headOf k s e = hd := ⟨_, rfl⟩
  have HH2 := Lib.hid hhd
  have HHL := Lib.hid (show hd.length = 17 by rw [← hhd, HH.out]; have := HPL.out; simp [this])
  have HOn := Aside0.mk (show O8 w12 w0.heap.size v7 hd by rw [← hhd, HH.out]; exact HO.out)
  clear hhd HO
  have HO := HOn
  clear HOn
  have y0 := pw_cell_below HBq.out q0
  have y1 := pw_cell_below HBq.out q1
  have y2 := pw_cell_below HBq.out q2
  have y3 := pw_cell_below HBq.out q3
  have y4 := pw_cell_below HBq.out q4
  have y5 := pw_cell_below HBq.out q5
  have y6 := pw_cell_below HBq.out q6
  have y7 := pw_cell_below HBq.out q7
  rcases (show k = 1 ∨ k = 2 ∨ k = 3 ∨ k = 4 ∨ k = 5 ∨ k = 6 by omega) with rfl | rfl | rfl | rfl | rfl | rfl
  · have HBY := Lib.hid (show bytesOf 1 s e i t c L bo = hd ++ [IntKind.u8.wrap i, IntKind.u8.wrap t] ++ bo by unfold bytesOf tailOf; rw [if_pos rfl, HH2.out]; simp [enc, u8w])
    go_wp2_with (first | ((with_reducible refine gate_builtin (b := .append) (xs := #[.tmp 23, .tmp 30]) rfl ?_); at_builtin; refine ap8 (w0 := w0) (b := w0.heap.size) (ys := [IntKind.u8.wrap i, IntKind.u8.wrap t]) rfl rfl rfl rfl (O8.below HO.out (below_alloc (Below.refl _ _) _)) (Kd.C_lit8 (blk_new w12 _) [IntKind.u8.wrap i, IntKind.u8.wrap t] (by simp) rfl) (below_alloc HBq.out _) ((below_alloc HBq.out _)).size (by have := HHL.out; simp; omega) ?_; intro v8 w13 ho hb; have HO1 := Aside0.mk ho; have HB1 := Aside0.mk hb; clear ho hb; have z0 := pw_cell_below HB1.out q0; have z7 := pw_cell_below HB1.out q7) | ((with_reducible refine gate_builtin (b := .append) (xs := #[.tmp 32, .tmp 34]) rfl ?_); at_builtin; refine ap8 (w0 := w0) (b := w0.heap.size) rfl rfl rfl rfl HO1.out (Kd.C_below HR7.out HB1.out) HB1.out (HB1.out).size (by have h1 := HHL.out; have h2 := HBO.out; simp; omega) ?_; intro v9 w14 ho hb; have HO2 := Aside0.mk ho; have HB2 := Aside0.mk hb; clear ho hb; have zz0 := pw_cell_below HB2.out q0))
    go_ret
    exact ⟨_, rfl, by rw [HBY.out]; exact O8.lower HO2.out HB0.out.size, below_step HB0.out HB2.out⟩
  · obtain ⟨p4, hp4⟩ : ∃ p, flat 1 L = p := ⟨_, rfl⟩
    have HBY := Lib.hid (show bytesOf 2 s e i t c L bo = hd ++ [IntKind.u8.wrap i] ++ p4 by unfold bytesOf tailOf; rw [if_neg (by decide), if_pos rfl, HH2.out, hp4]; simp [enc, u8w])
    have HPR := Lib.hid (rputrow (W := 1) (l := L) (p := p4) HL.out (fa2 HMM.out) hp4)
    have HP4 := Lib.hid (show p4.length < 10000 by rw [← hp4, flat_length]; have := HL.out; simp; omega)
    clear hp4
    go_wp2_with ((with_reducible refine gate_builtin (b := .append) (xs := #[.tmp 39, .tmp 43]) rfl ?_); at_builtin; refine ap8 (w0 := w0) (b := w0.heap.size) (ys := [IntKind.u8.wrap i]) rfl rfl rfl rfl (O8.below HO.out (below_alloc (Below.refl _ _) _)) (Kd.C_lit8 (blk_new w12 _) [IntKind.u8.wrap i] (by simp) rfl) (below_alloc HBq.out _) ((below_alloc HBq.out _)).size (by have := HHL.out; simp; omega) ?_; intro v8 w13 ho hb; have HO1 := Aside0.mk ho; have HB1 := Aside0.mk hb; clear ho hb; have z0 := pw_cell_below HB1.out q0; have z6 := pw_cell_below HB1.out q6)
    refine (precentorref02_PutRow.calls (L.length + 10) A6 c6 L 1 p4 w13 (Kd.C_below HR6.out HB1.out) HC6.out HPR.out).mono ?_
    rintro e8 w15 ⟨v10, rfl, hr, hb⟩
    obtain ⟨A14, c14, rfl, hl4, hC4⟩ := Kd.R_reads hr
    have HC4 := Aside0.mk hC4
    have HO3 := Aside0.mk (O8.below HO1.out hb)
    have HB3 := Aside0.mk (below_step HB1.out hb)
    have zz0 := pw_cell_below HB3.out q0
    clear hr hb hl4 hC4
    go_wp2_with ((with_reducible refine gate_builtin (b := .append) (xs := #[.tmp 45, .tmp 48]) rfl ?_); at_builtin; refine ap8 (w0 := w0) (b := w0.heap.size) rfl rfl rfl rfl HO3.out HC4.out HB3.out (HB3.out).size (by have h1 := HHL.out; have h2 := HP4.out; simp; omega) ?_; intro v9 w16 ho hb; have HO4 := Aside0.mk ho; have HB4 := Aside0.mk hb; clear ho hb; have z9 := pw_cell_below HB4.out q0)
    go_ret
    exact ⟨_, rfl, by rw [HBY.out]; exact O8.lower HO4.out HB0.out.size, below_step HB0.out HB4.out⟩
  · have HBY := Lib.hid (show bytesOf 3 s e i t c L bo = hd by unfold bytesOf tailOf; rw [if_neg (by decide), if_neg (by decide), if_neg (by decide), if_neg (by decide), if_neg (by decide), HH2.out, List.append_nil])
    go_wp2_with fail
    go_ret
    exact ⟨_, rfl, by rw [HBY.out]; exact O8.lower HO.out HB0.out.size, below_step HB0.out HBq.out⟩
  · have HBY := Lib.hid (show bytesOf 4 s e i t c L bo = hd ++ [IntKind.u8.wrap i] by unfold bytesOf tailOf; rw [if_neg (by decide), if_neg (by decide), if_pos rfl, HH2.out]; simp [enc, u8w])
    go_wp2_with ((with_reducible refine gate_builtin (b := .append) (xs := #[.tmp 53, .tmp 57]) rfl ?_); at_builtin; refine ap8 (w0 := w0) (b := w0.heap.size) (ys := [IntKind.u8.wrap i]) rfl rfl rfl rfl (O8.below HO.out (below_alloc (Below.refl _ _) _)) (Kd.C_lit8 (blk_new w12 _) [IntKind.u8.wrap i] (by simp) rfl) (below_alloc HBq.out _) ((below_alloc HBq.out _)).size (by have := HHL.out; simp; omega) ?_; intro v8 w13 ho hb; have HO1 := Aside0.mk ho; have HB1 := Aside0.mk hb; clear ho hb; have z0 := pw_cell_below HB1.out q0)
    go_ret
    exact ⟨_, rfl, by rw [HBY.out]; exact O8.lower HO1.out HB0.out.size, below_step HB0.out HB1.out⟩
  · obtain ⟨p4, hp4⟩ : ∃ p, enc 8 c = p := ⟨_, rfl⟩
    have HBY := Lib.hid (show bytesOf 5 s e i t c L bo = hd ++ p4 by unfold bytesOf tailOf; rw [if_neg (by decide), if_neg (by decide), if_neg (by decide), if_pos rfl, HH2.out, hp4])
    have HPR := Lib.hid (show precentorref02_Put.f 20 c 8 = some p4 by rw [rput_is (by omega), ← hp4]; exact put8 (cc5 HMM.out))
    have HP4 := Lib.hid (show p4.length = 8 by rw [← hp4]; rfl)
    clear hp4
    go_wp2_with fail
    refine (precentorref02_Put.calls 20 c 8 p4 w12 HPR.out).mono ?_
    rintro e8 w15 ⟨v10, rfl, hr, hb⟩
    obtain ⟨A14, c14, rfl, hl4, hC4⟩ := Kd.R_reads hr
    have HC4 := Aside0.mk hC4
    have HO3 := Aside0.mk (O8.below HO.out hb)
    have HB3 := Aside0.mk (below_step HBq.out hb)
    clear hr hb hl4 hC4
    go_wp2_with ((with_reducible refine gate_builtin (b := .append) (xs := #[.tmp 62, .tmp 65]) rfl ?_); at_builtin; refine ap8 (w0 := w0) (b := w0.heap.size) rfl rfl rfl rfl HO3.out HC4.out HB3.out (HB3.out).size (by have := HHL.out; have := HP4.out; omega) ?_; intro v9 w16 ho hb; have HO4 := Aside0.mk ho; have HB4 := Aside0.mk hb; clear ho hb; have z9 := pw_cell_below HB4.out q0)
    go_ret
    exact ⟨_, rfl, by rw [HBY.out]; exact O8.lower HO4.out HB0.out.size, below_step HB0.out HB4.out⟩
  · obtain ⟨p4, hp4⟩ : ∃ p, flat 8 L = p := ⟨_, rfl⟩
    have HBY := Lib.hid (show bytesOf 6 s e i t c L bo = hd ++ p4 by unfold bytesOf tailOf; rw [if_neg (by decide), if_neg (by decide), if_neg (by decide), if_neg (by decide), if_pos rfl, HH2.out, hp4])
    have HPR := Lib.hid (rputrow (W := 8) (l := L) (p := p4) HL.out (fa6 HMM.out) hp4)
    have HP4 := Lib.hid (show p4.length < 80000 by rw [← hp4, flat_length]; have := HL.out; simp; omega)
    clear hp4
    go_wp2_with fail
    refine (precentorref02_PutRow.calls (L.length + 10) A6 c6 L 8 p4 w12 (Kd.C_below HR6.out HBq.out) HC6.out HPR.out).mono ?_
    rintro e8 w15 ⟨v10, rfl, hr, hb⟩
    obtain ⟨A14, c14, rfl, hl4, hC4⟩ := Kd.R_reads hr
    have HC4 := Aside0.mk hC4
    have HO3 := Aside0.mk (O8.below HO.out hb)
    have HB3 := Aside0.mk (below_step HBq.out hb)
    have zz0 := pw_cell_below HB3.out q0
    clear hr hb hl4 hC4
    go_wp2_with ((with_reducible refine gate_builtin (b := .append) (xs := #[.tmp 70, .tmp 73]) rfl ?_); at_builtin; refine ap8 (w0 := w0) (b := w0.heap.size) rfl rfl rfl rfl HO3.out HC4.out HB3.out (HB3.out).size (by have := HHL.out; have := HP4.out; omega) ?_; intro v9 w16 ho hb; have HO4 := Aside0.mk ho; have HB4 := Aside0.mk hb; clear ho hb; have z9 := pw_cell_below HB4.out q0)
    go_ret
    exact ⟨_, rfl, by rw [HBY.out]; exact O8.lower HO4.out HB0.out.size, below_step HB0.out HB4.out⟩
theorem precentorref03_Bytes.no (k s e i t c : Int) (A6 : Option Addr) (c6 : Nat) (L : List Int) (A7 : Option Addr) (c7 : Nat) (bo : List Int) (w : World) (hr6 : Kd.C (Kd.int .i64) w A6 L.length L) (hc6 : L.length ≤ c6) (hL : L.length < 10000) (hm : mayB k s e i t c L bo.length = false) :
    Calls Tryd.prog 18 #[.agg #[.int .i64 k, .int .i64 s, .int .i64 e, .int .i64 i, .int .i64 t, .int .i64 c, .slice A6 L.length c6, .slice A7 bo.length c7]] w (BytesPost w []) := by
  obtain ⟨w0, hw0, hB0, hs0, X0⟩ := boxed1 w (.int .i64 k) (.int .i64 s) (.int .i64 e) (.int .i64 i) (.int .i64 t) (.int .i64 c) (.slice A6 L.length c6) (.slice A7 bo.length c7)
  obtain ⟨⟨q0, q1, q2, q3, q4, q5, q6, q7⟩, _⟩ := cells8 X0
  have HB0 := Aside0.mk hB0
  have HMAY := Lib.hid (precentorref03_May.is k s e i t c A6 c6 L A7 c7 bo w0 (Kd.C_below hr6 hB0) hc6 hL false hm)
  clear X0 hB0 hr6 hm hc6 hs0
  go_enter Tryd.func18, Tryd.ntmps18
  go_wp2_with fail
  refine HMAY.out.mono ?_
  rintro e1 w1 ⟨rfl, hb⟩
  have HBq := Aside0.mk hb
  clear hb hw0
  go_wp2_with fail
  go_ret
  exact ⟨_, rfl, O8.nil _ _, below_step HB0.out HBq.out⟩
def precentorref03_Bytes.f (k s e i t c : Int) (L bo : List Int) : Option (List Int) :=
  if L.length < 10000 ∧ bo.length < 100000000 then some (if mayB k s e i t c L bo.length = true then bytesOf k s e i t c L bo else []) else none
theorem precentorref03_Bytes.is (k s e i t c : Int) (A6 : Option Addr) (c6 : Nat) (L : List Int) (A7 : Option Addr) (c7 : Nat) (bo : List Int) (w : World) (hr6 : Kd.C (Kd.int .i64) w A6 L.length L) (hc6 : L.length ≤ c6) (hr7 : Kd.C (Kd.int .u8) w A7 bo.length bo) (hc7 : bo.length ≤ c7) (hL : L.length < 10000) (hbo : bo.length < 100000000) :
    Calls Tryd.prog 18 #[.agg #[.int .i64 k, .int .i64 s, .int .i64 e, .int .i64 i, .int .i64 t, .int .i64 c, .slice A6 L.length c6, .slice A7 bo.length c7]] w (BytesPost w (if mayB k s e i t c L bo.length = true then bytesOf k s e i t c L bo else [])) := by
  cases hm : mayB k s e i t c L bo.length
  · rw [if_neg Bool.false_ne_true]; exact precentorref03_Bytes.no k s e i t c A6 c6 L A7 c7 bo w hr6 hc6 hL hm
  · rw [if_pos rfl]; exact precentorref03_Bytes.yes k s e i t c A6 c6 L A7 c7 bo w hr6 hc6 hr7 hc7 hL hbo hm
theorem precentorref03_Bytes.calls (a0_0 a0_1 a0_2 a0_3 a0_4 a0_5 : Int) (A0_6 : Option Addr) (c0_6 : Nat) (l0_6 : List Int) (A0_7 : Option Addr) (c0_7 : Nat) (l0_7 : List Int) (r : List Int) (w : World) (hr0_6 : Kd.C (Kd.int .i64) w A0_6 l0_6.length l0_6) (hc0_6 : l0_6.length ≤ c0_6) (hr0_7 : Kd.C (Kd.int .u8) w A0_7 l0_7.length l0_7) (hc0_7 : l0_7.length ≤ c0_7) (h : precentorref03_Bytes.f a0_0 a0_1 a0_2 a0_3 a0_4 a0_5 l0_6 l0_7 = some r) :
    Calls Tryd.prog 18 #[.agg #[.int .i64 a0_0, .int .i64 a0_1, .int .i64 a0_2, .int .i64 a0_3, .int .i64 a0_4, .int .i64 a0_5, .slice A0_6 l0_6.length c0_6, .slice A0_7 l0_7.length c0_7]] w fun e w' => ∃ v0_ : Value, e = .returned (v0_) ∧ Kd.R (Kd.int .u8) 5 w' w.heap.size (fun _ => True) v0_ r ∧ Below w.heap.size w w' := by
  unfold precentorref03_Bytes.f at h
  by_cases hc : l0_6.length < 10000 ∧ l0_7.length < 100000000
  · rw [if_pos hc] at h
    have h := Option.some.inj h
    subst h
    exact (precentorref03_Bytes.is a0_0 a0_1 a0_2 a0_3 a0_4 a0_5 A0_6 c0_6 l0_6 A0_7 c0_7 l0_7 w hr0_6 hc0_6 hr0_7 hc0_7 hc.1 hc.2).mono fun _ _ ⟨v, h1, h2, h3⟩ => ⟨v, h1, Kd.R_mono h2 (fun _ _ => trivial), h3⟩
  · rw [if_neg hc] at h; cases h
end Go.Proofs.YtocoikndkmdnkaaDoor.Print
