/- The document's example of chapter 04 is shown: the call returns true, and memory that was there is as it was. Conditions stand in each theorem. -/
import Derived.Test.YtieolhhokepkjaaDoorHandPR
import Derived.Test.YtieolhhokepkjaaDoorPrint3
import Derived.Test.YtieolhhokepkjaaDoorHandQS
import Derived.Lib.SlBytesConst
namespace Go.Proofs.YtieolhhokepkjaaDoor.Print
set_option linter.unusedVariables false
set_option linter.unusedSimpArgs false
open Go.RowKit Go.Proofs.YtieolhhokepkjaaDoorW.PrintWords Go.Proofs.YtieolhhokepkjaaDoorW.PrintLast Go.Proofs.YtieolhhokepkjaaDoorW.PrintMore Go.Proofs.YtieolhhokepkjaaDoor.NumPlain Go.Proofs.YtieolhhokepkjaaDoor.Crc
theorem lit_C (w : World) (xs : List Int) (cs : Array Value) (hcs : cs = (xs.map (Value.int .u8)).toArray) (n : Nat) (hn : xs.length = n) (hl : n ≤ 9223372036854775807) (t : TypeId) (fr : Nat × Nat) : Kd.C (Kd.int .u8) (w.alloc (.cells cs t fr)) (some ⟨w.heap.size, 0, none⟩) n xs := by
 subst hcs hn
 refine Kd.C_of_reads (enc := Value.int .u8) (d := (0 : Int)) (h1 := fun _ => rfl) ⟨rfl, hl, fun _ => ⟨_, rfl, fun j hj => ?_⟩⟩
 have h1 : (w.alloc (.cells (xs.map (Value.int .u8)).toArray t fr)).heap[w.heap.size]? = some (.cells (xs.map (Value.int .u8)).toArray t fr) := heap_alloc_new w _
 rw [add_plain]
 unfold World.cell?
 rw [h1]
 simp [List.getElem?_map, List.getElem?_eq_getElem hj, List.getD_eq_getElem?_getD]
theorem nilC (k : Kd Int) (w : World) : Kd.C k w none 0 [] := by
 obtain ⟨A, c, h, _, hC⟩ := Kd.R_reads (Kd.R_nil k 0 w 0 (fun _ => True))
 obtain ⟨rfl, _, _⟩ := Value.slice.inj h
 exact hC
theorem nilR {k : Kd Int} {e b : Nat} {w : World} {ok : Nat → Prop} {v : Value} (h : Kd.R k e w b ok v []) : ∃ A c, v = .slice A 0 c ∧ Kd.C k w A 0 [] := by
 obtain ⟨A, c, h, _, hC⟩ := Kd.R_reads h
 exact ⟨A, c, h, hC⟩
def precentorlaw04_shown.f : Option Bool := some true
def ex13 : List Int := [165, 3, 1, 2, 0, 0, 0, 0, 0, 0, 0, 5, 1]
def exB : List Int := ex13 ++ tl (sumOf ex13)
def ex8 : List Int := [97, 98, 99, 100, 101, 102, 103, 104]
def ex3 : List Int := [1, 2, 3]
theorem ex_bytes : pkt_Bytes.f 3 1 0 0 0 0 0 0 [] [] 2 5 1 0 [] = some exB := by decide +kernel
theorem ex_read : pkt_Read.f exB = some (3, 1, 0, 0, 0, 0, 0, 0, [], [], 2, 5, 1, 0, [], 0) := by kernel_rfl
theorem ex_read0 : pkt_Read.f [] = some (0, 0, 0, 0, 0, 0, 0, 0, [], [], 0, 0, 0, 0, [], 2) := by kernel_rfl
theorem ex_read8 : pkt_Read.f ex8 = some (0, 0, 0, 0, 0, 0, 0, 0, [], [], 0, 0, 0, 0, [], 3) := by kernel_rfl
theorem ex_seal13 : precentorref01_Seal.f 400 ex13 = some exB := by kernel_rfl
theorem ex_seal3 : precentorref01_Seal.f 400 ex3 = some (ex3 ++ tl (sumOf ex3)) := by kernel_rfl
theorem ex_read3 : pkt_Read.f (ex3 ++ tl (sumOf ex3)) = some (0, 0, 0, 0, 0, 0, 0, 0, [], [], 0, 0, 0, 0, [], 2) := by kernel_rfl
theorem ex_same : pkt_Same.f 10000 3 1 0 0 0 0 0 0 [] [] 2 5 1 0 [] 3 1 0 0 0 0 0 0 [] [] 2 5 1 0 [] = some true := by
 rw [psame_is _ _ _ _ _ _ _ _ _ _ _ _ _ _ _ _ _ _ _ _ _ _ _ _ _ _ _ _ _ _ (by decide) (by decide)]; decide +kernel
theorem ex_same0 : pkt_Same.f 10000 3 1 0 0 0 0 0 0 [] [] 2 5 1 0 [] 0 0 0 0 0 0 0 0 [] [] 0 0 0 0 [] = some false := by
 rw [psame_is _ _ _ _ _ _ _ _ _ _ _ _ _ _ _ _ _ _ _ _ _ _ _ _ _ _ _ _ _ _ (by decide) (by decide)]; decide +kernel
theorem ex_may : pkt_May.f 10000 3 1 0 0 0 0 0 0 [] [] 2 5 1 0 [] = some true := by
 rw [pmay_is _ _ _ _ _ _ _ _ _ _ _ _ _ _ _ (by decide) (by decide) (by decide)]; decide +kernel
theorem ex_may0 : pkt_May.f 10000 0 0 0 0 0 0 0 0 [] [] 0 0 0 0 [] = some false := by
 rw [pmay_is _ _ _ _ _ _ _ _ _ _ _ _ _ _ _ (by decide) (by decide) (by decide)]; decide +kernel
/-- What the last region reads. -/
def SX (g1 g3 : Nat) (A2 : Option Addr) (c2 : Nat) (bb : List Int) (A8 : Option Addr) (c8 : Nat) (A9 : Option Addr) (c9 : Nat) (A14 : Option Addr) (c14 : Nat) (w' : World) : Prop := w'.cell? ⟨g1, 0, none⟩ = some (.int .i64 3) ∧ w'.cell? ⟨g1, 1, none⟩ = some (.int .i64 1) ∧ w'.cell? ⟨g1, 2, none⟩ = some (.int .i64 0) ∧ w'.cell? ⟨g1, 3, none⟩ = some (.int .i64 0) ∧ w'.cell? ⟨g1, 4, none⟩ = some (.int .i64 0) ∧ w'.cell? ⟨g1, 5, none⟩ = some (.int .i64 0) ∧ w'.cell? ⟨g1, 6, none⟩ = some (.int .i64 0) ∧ w'.cell? ⟨g1, 7, none⟩ = some (.int .i64 0) ∧ w'.cell? ⟨g1, 8, none⟩ = some (.slice none 0 0) ∧ w'.cell? ⟨g1, 9, none⟩ = some (.slice none 0 0) ∧ w'.cell? ⟨g1, 10, none⟩ = some (.int .i64 2) ∧ w'.cell? ⟨g1, 11, none⟩ = some (.int .i64 5) ∧ w'.cell? ⟨g1, 12, none⟩ = some (.int .i64 1) ∧ w'.cell? ⟨g1, 13, none⟩ = some (.int .i64 0) ∧ w'.cell? ⟨g1, 14, none⟩ = some (.slice none 0 0) ∧ w'.cell? ⟨g3, 0, none⟩ = some (.int .i64 3) ∧ w'.cell? ⟨g3, 1, none⟩ = some (.int .i64 1) ∧ w'.cell? ⟨g3, 2, none⟩ = some (.int .i64 0) ∧ w'.cell? ⟨g3, 3, none⟩ = some (.int .i64 0) ∧ w'.cell? ⟨g3, 4, none⟩ = some (.int .i64 0) ∧ w'.cell? ⟨g3, 5, none⟩ = some (.int .i64 0) ∧ w'.cell? ⟨g3, 6, none⟩ = some (.int .i64 0) ∧ w'.cell? ⟨g3, 7, none⟩ = some (.int .i64 0) ∧ w'.cell? ⟨g3, 8, none⟩ = some (.slice A8 0 c8) ∧ w'.cell? ⟨g3, 9, none⟩ = some (.slice A9 0 c9) ∧ w'.cell? ⟨g3, 10, none⟩ = some (.int .i64 2) ∧ w'.cell? ⟨g3, 11, none⟩ = some (.int .i64 5) ∧ w'.cell? ⟨g3, 12, none⟩ = some (.int .i64 1) ∧ w'.cell? ⟨g3, 13, none⟩ = some (.int .i64 0) ∧ w'.cell? ⟨g3, 14, none⟩ = some (.slice A14 0 c14) ∧ (convert 23 9 (.slice A2 bb.length c2)).run Tryd.prog w' = .ok (.string (strOfNums bb)) w'
theorem SX.mk_ {g1 g3 : Nat} {A2 : Option Addr} {c2 : Nat} {bb : List Int} {A8 : Option Addr} {c8 : Nat} {A9 : Option Addr} {c9 : Nat} {A14 : Option Addr} {c14 : Nat} {w' : World} (h1 : w'.heap[g1]? = some (.cells #[.int .i64 3, .int .i64 1, .int .i64 0, .int .i64 0, .int .i64 0, .int .i64 0, .int .i64 0, .int .i64 0, .slice none 0 0, .slice none 0 0, .int .i64 2, .int .i64 5, .int .i64 1, .int .i64 0, .slice none 0 0] 27 (0, 0))) (h3 : w'.heap[g3]? = some (.cells #[.int .i64 3, .int .i64 1, .int .i64 0, .int .i64 0, .int .i64 0, .int .i64 0, .int .i64 0, .int .i64 0, .slice A8 0 c8, .slice A9 0 c9, .int .i64 2, .int .i64 5, .int .i64 1, .int .i64 0, .slice A14 0 c14] 27 (0, 0))) (hc : Kd.C (Kd.int .u8) w' A2 bb.length bb) : SX g1 g3 A2 c2 bb A8 c8 A9 c9 A14 c14 w' :=
 ⟨blk_cell h1 0, blk_cell h1 1, blk_cell h1 2, blk_cell h1 3, blk_cell h1 4, blk_cell h1 5, blk_cell h1 6, blk_cell h1 7, blk_cell h1 8, blk_cell h1 9, blk_cell h1 10, blk_cell h1 11, blk_cell h1 12, blk_cell h1 13, blk_cell h1 14, blk_cell h3 0, blk_cell h3 1, blk_cell h3 2, blk_cell h3 3, blk_cell h3 4, blk_cell h3 5, blk_cell h3 6, blk_cell h3 7, blk_cell h3 8, blk_cell h3 9, blk_cell h3 10, blk_cell h3 11, blk_cell h3 12, blk_cell h3 13, blk_cell h3 14, Kd.C_string (P := Tryd.prog) (A := A2) (c := c2) Tryd.underlying23 Tryd.underlying5 Tryd.underlying9 hc⟩
def snd_ : Code → Code
 | .seq _ b => b
 | c => c
def fst_ : Code → Code
 | .seq a _ => a
 | c => c
set_option maxRecDepth 100000 in
set_option maxHeartbeats 4000000 in
/-- The last region of shown. -/
theorem shown_last (g1 g3 : Nat) (A2 : Option Addr) (c2 : Nat) (bb : List Int) (A8 : Option Addr) (c8 : Nat) (A9 : Option Addr) (c9 : Nat) (A14 : Option Addr) (c14 : Nat) (x5 x7 x9 t11 t12 t13 t14 t15 t16 t17 t18 t19 t20 t21 t22 t23 t24 t25 t26 t27 t28 t29 t30 t31 t32 t33 t34 : Value) (wb : World)
  (hX1 : wb.heap[g1]? = some (.cells #[.int .i64 3, .int .i64 1, .int .i64 0, .int .i64 0, .int .i64 0, .int .i64 0, .int .i64 0, .int .i64 0, .slice none 0 0, .slice none 0 0, .int .i64 2, .int .i64 5, .int .i64 1, .int .i64 0, .slice none 0 0] 27 (0, 0))) (hX3 : wb.heap[g3]? = some (.cells #[.int .i64 3, .int .i64 1, .int .i64 0, .int .i64 0, .int .i64 0, .int .i64 0, .int .i64 0, .int .i64 0, .slice A8 0 c8, .slice A9 0 c9, .int .i64 2, .int .i64 5, .int .i64 1, .int .i64 0, .slice A14 0 c14] 27 (0, 0))) (hC2 : Kd.C (Kd.int .u8) wb A2 bb.length bb) (h8 : Kd.C (Kd.int .i64) wb A8 0 []) (h9 : Kd.C (Kd.int .u8) wb A9 0 []) (h14 : Kd.C (Kd.int .i64) wb A14 0 []) (hbb : exB = bb) :
  Code.wp Tryd.prog (fst_ (snd_ (snd_ (snd_ (snd_ (snd_ (snd_ (snd_ (Tryd.f9.body.getD .skip)))))))))
   (Exit.then (fun a W => a.tmps[0]? = some (.bool true) ∧ a.defers = [] ∧ Below wb.heap.size wb W) (fun _ _ _ => False))
   { tmps := #[.bool false, .pointer (some ⟨g1, 0, none⟩), .slice A2 bb.length c2, .pointer (some ⟨g3, 0, none⟩), .int .i64 0, x5, .int .i64 2, x7, .int .i64 3, x9, .int .i64 2, t11, t12, t13, t14, t15, t16, t17, t18, t19, t20, t21, t22, t23, t24, t25, t26, t27, t28, t29, t30, t31, t32, t33, t34, undef, undef, undef, undef, undef, undef, undef, undef, undef, undef, undef, undef, undef, undef, undef, undef, undef, undef, undef, undef, undef, undef, undef, undef, undef, undef, undef, undef, undef, undef, undef, undef, undef, undef, undef, undef, undef, undef, undef, undef, undef, undef, undef], defers := [] } wb := by
 have HB := ak (Below.refl wb.heap.size wb)
 have HX1 := ak hX1
 have HX3 := ak hX3
 have HC2 := ak hC2
 have H8 := ak h8
 have H9 := ak h9
 have H14 := ak h14
 have HEB := Lib.hid hbb
 clear hX1 hX3 hC2 h8 h9 h14 hbb
 dsimp only [Tryd.f9, Option.getD_some, snd_, fst_]
 refine start_ (n := 44) (S := fun w' => SX g1 g3 A2 c2 bb A8 c8 A9 c9 A14 c14 w') (ds := []) #[false, false, false, false, false, false, false, false, false, false, false, false, false, false, false, false, false, false, false, false, false, false, false, false, false, false, false, false, false, false, false, false, false, false, false, false, false, false, false, false, false, false, false, false] (by kernel_rfl) rfl rfl (SX.mk_ (blk_below HX1.out (below_drew1 (Below.refl _ _))) (blk_below HX3.out (below_drew1 (Below.refl _ _))) (Kd.C_below HC2.out (below_drew1 (Below.refl _ _)))) (fun hHeld => ?_)
 have n0_ := ak (below_step HB.out (below_drew1 (Below.refl _ _)))
 have n1_ := ak (blk_below HX1.out (below_drew1 (Below.refl _ _)))
 have n2_ := ak (blk_below HX3.out (below_drew1 (Below.refl _ _)))
 have n3_ := ak (Kd.C_below HC2.out (below_drew1 (Below.refl _ _)))
 have n4_ := ak (Kd.C_below H8.out (below_drew1 (Below.refl _ _)))
 have n5_ := ak (Kd.C_below H9.out (below_drew1 (Below.refl _ _)))
 have n6_ := ak (Kd.C_below H14.out (below_drew1 (Below.refl _ _)))
 clear HB HX1 HX3 HC2 H8 H9 H14
 have HB := n0_
 have HX1 := n1_
 have HX3 := n2_
 have HC2 := n3_
 have H8 := n4_
 have H9 := n5_
 have H14 := n6_
 clear n0_ n1_ n2_ n3_ n4_ n5_ n6_
 generalize hwc_ : wb.drew = wc at *
 clear hwc_
 refine pure_ (i := 0) (N := some 35) (v := ?_) (a' := ?_) #[true, false, false, false, false, false, false, false, false, false, false, false, false, false, false, false, false, false, false, false, false, false, false, false, false, false, false, false, false, false, false, false, false, false, false, false, false, false, false, false, false, false, false, false] rfl rfl (by kernel_rfl) (fun _ _ _ h => h) (Or.inl ⟨by rfl, ?_⟩) ?_ ?_
 rotate_left
 ·
  intro w'
  go_simp
  with_reducible rfl
 rotate_left
 ·
  simp only [Act.put, sq1, sq2, sq3, i64_w, i32_w]
  rfl
 refine take_ (i := 1) (N := some 36) (v := ?_) (a' := ?_) #[true, true, false, false, false, false, false, false, false, false, false, false, false, false, false, false, false, false, false, false, false, false, false, false, false, false, false, false, false, false, false, false, false, false, false, false, false, false, false, false, false, false, false, false] rfl rfl (by kernel_rfl) (fun _ _ _ h => h) (Or.inl ⟨by rfl, ?_⟩) hHeld ?_ ?_
 rotate_left
 ·
  intro w' s0
  obtain ⟨s0_, s1_, s2_, s3_, s4_, s5_, s6_, s7_, s8_, s9_, s10_, s11_, s12_, s13_, s14_, s15_, s16_, s17_, s18_, s19_, s20_, s21_, s22_, s23_, s24_, s25_, s26_, s27_, s28_, s29_, s30_⟩ := s0
  go_simp
  with_reducible rfl
 rotate_left
 ·
  simp only [Act.put, sq1, sq2, sq3, i64_w, i32_w]
  rfl
 refine one_ (i := 2) (N := some 37) #[true, true, true, false, false, false, false, false, false, false, false, false, false, false, false, false, false, false, false, false, false, false, false, false, false, false, false, false, false, false, false, false, false, false, false, false, false, false, false, false, false, false, false, false] rfl rfl (by kernel_rfl) (by decide) (fun K hK => ?_)
 refine value_ (w1 := ?_) (v := ?_) (by rfl) rfl ?_ ?_
 rotate_left 2
 ·
  go_simp
  constructor
  ·
   rfl
  ·
   rfl
 have HBO := HB
 have HX1O := HX1
 have HX3O := HX3
 have HC2O := HC2
 have H8O := H8
 have H9O := H9
 have H14O := H14
 have n0_ := ak (below_step HB.out (below_alloc (Below.refl _ _) (Obj.cells #[.int .u8 165, .int .u8 3, .int .u8 1, .int .u8 2, .int .u8 0, .int .u8 0, .int .u8 0, .int .u8 0, .int .u8 0, .int .u8 0, .int .u8 0, .int .u8 5, .int .u8 1] 5)))
 have n1_ := ak (blk_below HX1.out (below_alloc (Below.refl _ _) (Obj.cells #[.int .u8 165, .int .u8 3, .int .u8 1, .int .u8 2, .int .u8 0, .int .u8 0, .int .u8 0, .int .u8 0, .int .u8 0, .int .u8 0, .int .u8 0, .int .u8 5, .int .u8 1] 5)))
 have n2_ := ak (blk_below HX3.out (below_alloc (Below.refl _ _) (Obj.cells #[.int .u8 165, .int .u8 3, .int .u8 1, .int .u8 2, .int .u8 0, .int .u8 0, .int .u8 0, .int .u8 0, .int .u8 0, .int .u8 0, .int .u8 0, .int .u8 5, .int .u8 1] 5)))
 have n3_ := ak (Kd.C_below HC2.out (below_alloc (Below.refl _ _) (Obj.cells #[.int .u8 165, .int .u8 3, .int .u8 1, .int .u8 2, .int .u8 0, .int .u8 0, .int .u8 0, .int .u8 0, .int .u8 0, .int .u8 0, .int .u8 0, .int .u8 5, .int .u8 1] 5)))
 have n4_ := ak (Kd.C_below H8.out (below_alloc (Below.refl _ _) (Obj.cells #[.int .u8 165, .int .u8 3, .int .u8 1, .int .u8 2, .int .u8 0, .int .u8 0, .int .u8 0, .int .u8 0, .int .u8 0, .int .u8 0, .int .u8 0, .int .u8 5, .int .u8 1] 5)))
 have n5_ := ak (Kd.C_below H9.out (below_alloc (Below.refl _ _) (Obj.cells #[.int .u8 165, .int .u8 3, .int .u8 1, .int .u8 2, .int .u8 0, .int .u8 0, .int .u8 0, .int .u8 0, .int .u8 0, .int .u8 0, .int .u8 0, .int .u8 5, .int .u8 1] 5)))
 have n6_ := ak (Kd.C_below H14.out (below_alloc (Below.refl _ _) (Obj.cells #[.int .u8 165, .int .u8 3, .int .u8 1, .int .u8 2, .int .u8 0, .int .u8 0, .int .u8 0, .int .u8 0, .int .u8 0, .int .u8 0, .int .u8 0, .int .u8 5, .int .u8 1] 5)))
 clear HB HX1 HX3 HC2 H8 H9 H14
 have HB := n0_
 have HX1 := n1_
 have HX3 := n2_
 have HC2 := n3_
 have H8 := n4_
 have H9 := n5_
 have H14 := n6_
 clear n0_ n1_ n2_ n3_ n4_ n5_ n6_
 refine hK.out _ _ (SX.mk_ HX1.out HX3.out HC2.out) (fun hHeld => ?_)
 clear hK K
 refine norm_ (a' := ?_) ?_ ?_
 rotate_left
 ·
  show Act.put _ (some 37) _ = _
  simp only [Act.put, sq1, sq2, sq3, i64_w, i32_w]
  rfl
 refine one_ (i := 3) (N := some 38) #[true, true, true, true, false, false, false, false, false, false, false, false, false, false, false, false, false, false, false, false, false, false, false, false, false, false, false, false, false, false, false, false, false, false, false, false, false, false, false, false, false, false, false, false] rfl rfl (by kernel_rfl) (by decide) (fun K hK => ?_)
 have kc := Lib.run_convert_bytes_const (P := Tryd.prog) wc 23 5 #[.int .u8 165, .int .u8 3, .int .u8 1, .int .u8 2, .int .u8 0, .int .u8 0, .int .u8 0, .int .u8 0, .int .u8 0, .int .u8 0, .int .u8 0, .int .u8 5, .int .u8 1] 13 13 Tryd.underlying23 Tryd.underlying5
 refine value_ (w1 := ?_) (v := ?_) (by rfl) rfl ?_ ?_
 rotate_left 2
 ·
  go_simp
  constructor
  ·
   rfl
  ·
   rfl
 clear kc HB HX1 HX3 HC2 H8 H9 H14
 have n0_ := ak (below_step HBO.out (below_alloc (Below.refl _ _) (Obj.cells #[.int .u8 165, .int .u8 3, .int .u8 1, .int .u8 2, .int .u8 0, .int .u8 0, .int .u8 0, .int .u8 0, .int .u8 0, .int .u8 0, .int .u8 0, .int .u8 5, .int .u8 1] 5 (13, 13 + 1))))
 have n1_ := ak (blk_below HX1O.out (below_alloc (Below.refl _ _) (Obj.cells #[.int .u8 165, .int .u8 3, .int .u8 1, .int .u8 2, .int .u8 0, .int .u8 0, .int .u8 0, .int .u8 0, .int .u8 0, .int .u8 0, .int .u8 0, .int .u8 5, .int .u8 1] 5 (13, 13 + 1))))
 have n2_ := ak (blk_below HX3O.out (below_alloc (Below.refl _ _) (Obj.cells #[.int .u8 165, .int .u8 3, .int .u8 1, .int .u8 2, .int .u8 0, .int .u8 0, .int .u8 0, .int .u8 0, .int .u8 0, .int .u8 0, .int .u8 0, .int .u8 5, .int .u8 1] 5 (13, 13 + 1))))
 have n3_ := ak (Kd.C_below HC2O.out (below_alloc (Below.refl _ _) (Obj.cells #[.int .u8 165, .int .u8 3, .int .u8 1, .int .u8 2, .int .u8 0, .int .u8 0, .int .u8 0, .int .u8 0, .int .u8 0, .int .u8 0, .int .u8 0, .int .u8 5, .int .u8 1] 5 (13, 13 + 1))))
 have n4_ := ak (Kd.C_below H8O.out (below_alloc (Below.refl _ _) (Obj.cells #[.int .u8 165, .int .u8 3, .int .u8 1, .int .u8 2, .int .u8 0, .int .u8 0, .int .u8 0, .int .u8 0, .int .u8 0, .int .u8 0, .int .u8 0, .int .u8 5, .int .u8 1] 5 (13, 13 + 1))))
 have n5_ := ak (Kd.C_below H9O.out (below_alloc (Below.refl _ _) (Obj.cells #[.int .u8 165, .int .u8 3, .int .u8 1, .int .u8 2, .int .u8 0, .int .u8 0, .int .u8 0, .int .u8 0, .int .u8 0, .int .u8 0, .int .u8 0, .int .u8 5, .int .u8 1] 5 (13, 13 + 1))))
 have n6_ := ak (Kd.C_below H14O.out (below_alloc (Below.refl _ _) (Obj.cells #[.int .u8 165, .int .u8 3, .int .u8 1, .int .u8 2, .int .u8 0, .int .u8 0, .int .u8 0, .int .u8 0, .int .u8 0, .int .u8 0, .int .u8 0, .int .u8 5, .int .u8 1] 5 (13, 13 + 1))))
 have HB := n0_
 have HX1 := n1_
 have HX3 := n2_
 have HC2 := n3_
 have H8 := n4_
 have H9 := n5_
 have H14 := n6_
 clear n0_ n1_ n2_ n3_ n4_ n5_ n6_
 clear HBO HX1O HX3O HC2O H8O H9O H14O
 have HLC := ak (lit_C wc ex13 #[.int .u8 165, .int .u8 3, .int .u8 1, .int .u8 2, .int .u8 0, .int .u8 0, .int .u8 0, .int .u8 0, .int .u8 0, .int .u8 0, .int .u8 0, .int .u8 5, .int .u8 1] rfl 13 rfl (by decide) 5 (13, 13 + 1))
 generalize hgl_ : wc.alloc (Obj.cells #[.int .u8 165, .int .u8 3, .int .u8 1, .int .u8 2, .int .u8 0, .int .u8 0, .int .u8 0, .int .u8 0, .int .u8 0, .int .u8 0, .int .u8 0, .int .u8 5, .int .u8 1] 5 (13, 13 + 1)) = wd at *
 clear hgl_
 generalize wc.heap.size = gc at *
 refine hK.out _ _ (SX.mk_ HX1.out HX3.out HC2.out) (fun hHeld => ?_)
 clear hK K
 refine norm_ (a' := ?_) ?_ ?_
 rotate_left
 ·
  show Act.put _ (some 38) _ = _
  simp only [Act.put, sq1, sq2, sq3, i64_w, i32_w]
  rfl
 refine one_ (i := 4) (N := some 39) #[true, true, true, true, true, false, false, false, false, false, false, false, false, false, false, false, false, false, false, false, false, false, false, false, false, false, false, false, false, false, false, false, false, false, false, false, false, false, false, false, false, false, false, false] rfl rfl (by kernel_rfl) (by decide) (fun K hK => ?_)
 have HCT := Lib.hid (show Calls Tryd.prog 19 #[.slice (some ⟨gc, 0, none⟩) 13 13] wd _ from precentorref01_Seal.calls 400 (some ⟨gc, 0, none⟩) 13 ex13 bb wd HLC.out (by decide) (by rw [← HEB.out]; exact ex_seal13))
 refine goes_ Tryd.func19 (by kernel_rfl) rfl #[.slice (some ⟨gc, 0, none⟩) 13 13] (by rfl) rfl rfl (by simp only [List.map_toArray, List.map_cons, List.map_nil]; rfl) ?_
 with_reducible refine (HCT.out).mono ?_
 rintro e0 we ⟨vs, rfl, hr, hb⟩
 refine ⟨_, rfl, ?_⟩
 have HRS := ak hr
 have n0_ := ak (below_step HB.out hb)
 have n1_ := ak (blk_below HX1.out hb)
 have n2_ := ak (blk_below HX3.out hb)
 have n3_ := ak (Kd.C_below HC2.out hb)
 have n4_ := ak (Kd.C_below H8.out hb)
 have n5_ := ak (Kd.C_below H9.out hb)
 have n6_ := ak (Kd.C_below H14.out hb)
 clear HB HX1 HX3 HC2 H8 H9 H14
 have HB := n0_
 have HX1 := n1_
 have HX3 := n2_
 have HC2 := n3_
 have H8 := n4_
 have H9 := n5_
 have H14 := n6_
 clear n0_ n1_ n2_ n3_ n4_ n5_ n6_
 clear hb hr HLC HCT
 refine hK.out _ _ (SX.mk_ HX1.out HX3.out HC2.out) (fun hHeld => ?_)
 clear hK K
 refine norm_ (a' := ?_) ?_ ?_
 rotate_left
 ·
  show Act.put _ (some 39) _ = _
  simp only [Act.put, sq1, sq2, sq3, i64_w, i32_w]
  rfl
 refine one_ (i := 5) (N := some 40) #[true, true, true, true, true, true, false, false, false, false, false, false, false, false, false, false, false, false, false, false, false, false, false, false, false, false, false, false, false, false, false, false, false, false, false, false, false, false, false, false, false, false, false, false] rfl rfl (by kernel_rfl) (by decide) (fun K hK => ?_)
 have hcv := own_string (P := Tryd.prog) Tryd.underlying23 Tryd.underlying5 Tryd.underlying9 (Kd.own_of_R HRS.out)
 refine value_ (w1 := ?_) (v := ?_) (by rfl) rfl ?_ ?_
 rotate_left 2
 ·
  go_simp
  constructor
  ·
   rfl
  ·
   rfl
 clear hcv
 refine hK.out _ _ (SX.mk_ HX1.out HX3.out HC2.out) (fun hHeld => ?_)
 clear hK K
 refine norm_ (a' := ?_) ?_ ?_
 rotate_left
 ·
  show Act.put _ (some 40) _ = _
  simp only [Act.put, sq1, sq2, sq3, i64_w, i32_w]
  rfl
 refine pure_ (i := 6) (N := some 41) (v := ?_) (a' := ?_) #[true, true, true, true, true, true, true, false, false, false, false, false, false, false, false, false, false, false, false, false, false, false, false, false, false, false, false, false, false, false, false, false, false, false, false, false, false, false, false, false, false, false, false, false] rfl rfl (by kernel_rfl) (fun _ _ _ h => h) (Or.inl ⟨by rfl, ?_⟩) ?_ ?_
 rotate_left
 ·
  intro w'
  go_simp
  with_reducible rfl
 rotate_left
 ·
  simp only [Act.put, sq1, sq2, sq3, i64_w, i32_w]
  rfl
 refine pure_ (i := 7) (N := some 42) (v := ?_) (a' := ?_) #[true, true, true, true, true, true, true, true, false, false, false, false, false, false, false, false, false, false, false, false, false, false, false, false, false, false, false, false, false, false, false, false, false, false, false, false, false, false, false, false, false, false, false, false] rfl rfl (by kernel_rfl) (fun _ _ _ h => h) (Or.inl ⟨by rfl, ?_⟩) ?_ ?_
 rotate_left
 ·
  intro w'
  go_simp
  with_reducible rfl
 rotate_left
 ·
  simp only [Act.put, sq1, sq2, sq3, i64_w, i32_w]
  rfl
 refine pure_ (i := 8) (N := some 43) (v := ?_) (a' := ?_) #[true, true, true, true, true, true, true, true, true, false, false, false, false, false, false, false, false, false, false, false, false, false, false, false, false, false, false, false, false, false, false, false, false, false, false, false, false, false, false, false, false, false, false, false] rfl rfl (by kernel_rfl) (fun _ _ _ h => h) (Or.inl ⟨by rfl, ?_⟩) ?_ ?_
 rotate_left
 ·
  intro w'
  go_simp
  with_reducible rfl
 rotate_left
 ·
  simp only [Act.put, sq1, sq2, sq3, i64_w, i32_w]
  rfl
 refine pure_ (i := 9) (N := some 44) (v := ?_) (a' := ?_) #[true, true, true, true, true, true, true, true, true, true, false, false, false, false, false, false, false, false, false, false, false, false, false, false, false, false, false, false, false, false, false, false, false, false, false, false, false, false, false, false, false, false, false, false] rfl rfl (by kernel_rfl) (fun _ _ _ h => h) (Or.inl ⟨by rfl, ?_⟩) ?_ ?_
 rotate_left
 ·
  intro w'
  go_simp
  with_reducible rfl
 rotate_left
 ·
  simp only [Act.put, sq1, sq2, sq3, i64_w, i32_w]
  rfl
 refine pure_ (i := 10) (N := some 45) (v := ?_) (a' := ?_) #[true, true, true, true, true, true, true, true, true, true, true, false, false, false, false, false, false, false, false, false, false, false, false, false, false, false, false, false, false, false, false, false, false, false, false, false, false, false, false, false, false, false, false, false] rfl rfl (by kernel_rfl) (fun _ _ _ h => h) (Or.inl ⟨by rfl, ?_⟩) ?_ ?_
 rotate_left
 ·
  intro w'
  go_simp
  with_reducible rfl
 rotate_left
 ·
  simp only [Act.put, sq1, sq2, sq3, i64_w, i32_w]
  rfl
 refine pure_ (i := 11) (N := some 46) (v := ?_) (a' := ?_) #[true, true, true, true, true, true, true, true, true, true, true, true, false, false, false, false, false, false, false, false, false, false, false, false, false, false, false, false, false, false, false, false, false, false, false, false, false, false, false, false, false, false, false, false] rfl rfl (by kernel_rfl) (fun _ _ _ h => h) (Or.inl ⟨by rfl, ?_⟩) ?_ ?_
 rotate_left
 ·
  intro w'
  go_simp
  with_reducible rfl
 rotate_left
 ·
  simp only [Act.put, sq1, sq2, sq3, i64_w, i32_w]
  rfl
 refine take_ (i := 12) (N := some 47) (v := ?_) (a' := ?_) #[true, true, true, true, true, true, true, true, true, true, true, true, true, false, false, false, false, false, false, false, false, false, false, false, false, false, false, false, false, false, false, false, false, false, false, false, false, false, false, false, false, false, false, false] rfl rfl (by kernel_rfl) (fun _ _ _ h => h) (Or.inl ⟨by rfl, ?_⟩) hHeld ?_ ?_
 rotate_left
 ·
  intro w' s0
  obtain ⟨s0_, s1_, s2_, s3_, s4_, s5_, s6_, s7_, s8_, s9_, s10_, s11_, s12_, s13_, s14_, s15_, s16_, s17_, s18_, s19_, s20_, s21_, s22_, s23_, s24_, s25_, s26_, s27_, s28_, s29_, s30_⟩ := s0
  go_simp
  with_reducible rfl
 rotate_left
 ·
  simp only [Act.put, sq1, sq2, sq3, i64_w, i32_w]
  rfl
 refine take_ (i := 13) (N := some 48) (v := ?_) (a' := ?_) #[true, true, true, true, true, true, true, true, true, true, true, true, true, true, false, false, false, false, false, false, false, false, false, false, false, false, false, false, false, false, false, false, false, false, false, false, false, false, false, false, false, false, false, false] rfl rfl (by kernel_rfl) (fun _ _ _ h => h) (Or.inl ⟨by rfl, ?_⟩) hHeld ?_ ?_
 rotate_left
 ·
  intro w' s0
  obtain ⟨s0_, s1_, s2_, s3_, s4_, s5_, s6_, s7_, s8_, s9_, s10_, s11_, s12_, s13_, s14_, s15_, s16_, s17_, s18_, s19_, s20_, s21_, s22_, s23_, s24_, s25_, s26_, s27_, s28_, s29_, s30_⟩ := s0
  go_simp
  with_reducible rfl
 rotate_left
 ·
  simp only [Act.put, sq1, sq2, sq3, i64_w, i32_w]
  rfl
 refine one_ (i := 14) (N := some 49) #[true, true, true, true, true, true, true, true, true, true, true, true, true, true, true, false, false, false, false, false, false, false, false, false, false, false, false, false, false, false, false, false, false, false, false, false, false, false, false, false, false, false, false, false] rfl rfl (by kernel_rfl) (by decide) (fun K hK => ?_)
 have HCT := Lib.hid (show Calls Tryd.prog 15 #[.agg #[.int .i64 3, .int .i64 1, .int .i64 0, .int .i64 0, .int .i64 0, .int .i64 0, .int .i64 0, .int .i64 0, .slice A8 0 c8, .slice A9 0 c9, .int .i64 2, .int .i64 5, .int .i64 1, .int .i64 0, .slice A14 0 c14], .agg #[.int .i64 3, .int .i64 1, .int .i64 0, .int .i64 0, .int .i64 0, .int .i64 0, .int .i64 0, .int .i64 0, .slice none 0 0, .slice none 0 0, .int .i64 2, .int .i64 5, .int .i64 1, .int .i64 0, .slice none 0 0]] we _ from pkt_Same.calls 10000 3 1 0 0 0 0 0 0 A8 c8 [] A9 c9 [] 2 5 1 0 A14 c14 [] 3 1 0 0 0 0 0 0 none 0 [] none 0 [] 2 5 1 0 none 0 [] true we H8.out (Nat.zero_le _) H9.out (Nat.zero_le _) H14.out (Nat.zero_le _) (nilC _ _) (Nat.le_refl _) (nilC _ _) (Nat.le_refl _) (nilC _ _) (Nat.le_refl _) ex_same)
 refine goes_ Tryd.func15 (by kernel_rfl) rfl #[.agg #[.int .i64 3, .int .i64 1, .int .i64 0, .int .i64 0, .int .i64 0, .int .i64 0, .int .i64 0, .int .i64 0, .slice A8 0 c8, .slice A9 0 c9, .int .i64 2, .int .i64 5, .int .i64 1, .int .i64 0, .slice A14 0 c14], .agg #[.int .i64 3, .int .i64 1, .int .i64 0, .int .i64 0, .int .i64 0, .int .i64 0, .int .i64 0, .int .i64 0, .slice none 0 0, .slice none 0 0, .int .i64 2, .int .i64 5, .int .i64 1, .int .i64 0, .slice none 0 0]] (by rfl) rfl rfl (by simp only [List.map_toArray, List.map_cons, List.map_nil]; rfl) ?_
 with_reducible refine (HCT.out).mono ?_
 rintro e0 wf ⟨rfl, hb⟩
 refine ⟨_, rfl, ?_⟩
 have n0_ := ak (below_step HB.out hb)
 have n1_ := ak (blk_below HX1.out hb)
 have n2_ := ak (blk_below HX3.out hb)
 have n3_ := ak (Kd.C_below HC2.out hb)
 have n4_ := ak (Kd.C_below H8.out hb)
 have n5_ := ak (Kd.C_below H9.out hb)
 have n6_ := ak (Kd.C_below H14.out hb)
 clear HB HX1 HX3 HC2 H8 H9 H14
 have HB := n0_
 have HX1 := n1_
 have HX3 := n2_
 have HC2 := n3_
 have H8 := n4_
 have H9 := n5_
 have H14 := n6_
 clear n0_ n1_ n2_ n3_ n4_ n5_ n6_
 clear hb HCT
 refine hK.out _ _ (SX.mk_ HX1.out HX3.out HC2.out) (fun hHeld => ?_)
 clear hK K
 refine norm_ (a' := ?_) ?_ ?_
 rotate_left
 ·
  show Act.put _ (some 49) _ = _
  simp only [Act.put, sq1, sq2, sq3, i64_w, i32_w]
  rfl
 refine pure_ (i := 15) (N := some 50) (v := ?_) (a' := ?_) #[true, true, true, true, true, true, true, true, true, true, true, true, true, true, true, true, false, false, false, false, false, false, false, false, false, false, false, false, false, false, false, false, false, false, false, false, false, false, false, false, false, false, false, false] rfl rfl (by kernel_rfl) (fun _ _ _ h => h) (Or.inl ⟨by rfl, ?_⟩) ?_ ?_
 rotate_left
 ·
  intro w'
  go_simp
  with_reducible rfl
 rotate_left
 ·
  simp only [Act.put, sq1, sq2, sq3, i64_w, i32_w]
  rfl
 refine pure_ (i := 16) (N := some 51) (v := ?_) (a' := ?_) #[true, true, true, true, true, true, true, true, true, true, true, true, true, true, true, true, true, false, false, false, false, false, false, false, false, false, false, false, false, false, false, false, false, false, false, false, false, false, false, false, false, false, false, false] rfl rfl (by kernel_rfl) (fun _ _ _ h => h) (Or.inl ⟨by rfl, ?_⟩) ?_ ?_
 rotate_left
 ·
  intro w'
  go_simp
  with_reducible rfl
 rotate_left
 ·
  simp only [Act.put, sq1, sq2, sq3, i64_w, i32_w]
  rfl
 refine pure_ (i := 17) (N := some 52) (v := ?_) (a' := ?_) #[true, true, true, true, true, true, true, true, true, true, true, true, true, true, true, true, true, true, false, false, false, false, false, false, false, false, false, false, false, false, false, false, false, false, false, false, false, false, false, false, false, false, false, false] rfl rfl (by kernel_rfl) (fun _ _ _ h => h) (Or.inl ⟨by rfl, ?_⟩) ?_ ?_
 rotate_left
 ·
  intro w'
  go_simp
  with_reducible rfl
 rotate_left
 ·
  simp only [Act.put, sq1, sq2, sq3, i64_w, i32_w]
  rfl
 refine pure_ (i := 18) (N := some 53) (v := ?_) (a' := ?_) #[true, true, true, true, true, true, true, true, true, true, true, true, true, true, true, true, true, true, true, false, false, false, false, false, false, false, false, false, false, false, false, false, false, false, false, false, false, false, false, false, false, false, false, false] rfl rfl (by kernel_rfl) (fun _ _ _ h => h) (Or.inl ⟨by rfl, ?_⟩) ?_ ?_
 rotate_left
 ·
  intro w'
  go_simp
  with_reducible rfl
 rotate_left
 ·
  simp only [Act.put, sq1, sq2, sq3, i64_w, i32_w]
  rfl
 refine pure_ (i := 19) (N := some 54) (v := ?_) (a' := ?_) #[true, true, true, true, true, true, true, true, true, true, true, true, true, true, true, true, true, true, true, true, false, false, false, false, false, false, false, false, false, false, false, false, false, false, false, false, false, false, false, false, false, false, false, false] rfl rfl (by kernel_rfl) (fun _ _ _ h => h) (Or.inl ⟨by rfl, ?_⟩) ?_ ?_
 rotate_left
 ·
  intro w'
  go_simp
  with_reducible rfl
 rotate_left
 ·
  simp only [Act.put, sq1, sq2, sq3, i64_w, i32_w]
  rfl
 refine pure_ (i := 20) (N := some 55) (v := ?_) (a' := ?_) #[true, true, true, true, true, true, true, true, true, true, true, true, true, true, true, true, true, true, true, true, true, false, false, false, false, false, false, false, false, false, false, false, false, false, false, false, false, false, false, false, false, false, false, false] rfl rfl (by kernel_rfl) (fun _ _ _ h => h) (Or.inl ⟨by rfl, ?_⟩) ?_ ?_
 rotate_left
 ·
  intro w'
  go_simp
  with_reducible rfl
 rotate_left
 ·
  simp only [Act.put, sq1, sq2, sq3, i64_w, i32_w]
  rfl
 refine pure_ (i := 21) (N := some 56) (v := ?_) (a' := ?_) #[true, true, true, true, true, true, true, true, true, true, true, true, true, true, true, true, true, true, true, true, true, true, false, false, false, false, false, false, false, false, false, false, false, false, false, false, false, false, false, false, false, false, false, false] rfl rfl (by kernel_rfl) (fun _ _ _ h => h) (Or.inl ⟨by rfl, ?_⟩) ?_ ?_
 rotate_left
 ·
  intro w'
  go_simp
  with_reducible rfl
 rotate_left
 ·
  simp only [Act.put, sq1, sq2, sq3, i64_w, i32_w]
  rfl
 refine pure_ (i := 22) (N := some 57) (v := ?_) (a' := ?_) #[true, true, true, true, true, true, true, true, true, true, true, true, true, true, true, true, true, true, true, true, true, true, true, false, false, false, false, false, false, false, false, false, false, false, false, false, false, false, false, false, false, false, false, false] rfl rfl (by kernel_rfl) (fun _ _ _ h => h) (Or.inl ⟨by rfl, ?_⟩) ?_ ?_
 rotate_left
 ·
  intro w'
  go_simp
  with_reducible rfl
 rotate_left
 ·
  simp only [Act.put, sq1, sq2, sq3, i64_w, i32_w]
  rfl
 refine pure_ (i := 23) (N := some 58) (v := ?_) (a' := ?_) #[true, true, true, true, true, true, true, true, true, true, true, true, true, true, true, true, true, true, true, true, true, true, true, true, false, false, false, false, false, false, false, false, false, false, false, false, false, false, false, false, false, false, false, false] rfl rfl (by kernel_rfl) (fun _ _ _ h => h) (Or.inl ⟨by rfl, ?_⟩) ?_ ?_
 rotate_left
 ·
  intro w'
  go_simp
  with_reducible rfl
 rotate_left
 ·
  simp only [Act.put, sq1, sq2, sq3, i64_w, i32_w]
  rfl
 refine pure_ (i := 24) (N := some 59) (v := ?_) (a' := ?_) #[true, true, true, true, true, true, true, true, true, true, true, true, true, true, true, true, true, true, true, true, true, true, true, true, true, false, false, false, false, false, false, false, false, false, false, false, false, false, false, false, false, false, false, false] rfl rfl (by kernel_rfl) (fun _ _ _ h => h) (Or.inl ⟨by rfl, ?_⟩) ?_ ?_
 rotate_left
 ·
  intro w'
  go_simp
  with_reducible rfl
 rotate_left
 ·
  simp only [Act.put, sq1, sq2, sq3, i64_w, i32_w]
  rfl
 refine pure_ (i := 25) (N := some 60) (v := ?_) (a' := ?_) #[true, true, true, true, true, true, true, true, true, true, true, true, true, true, true, true, true, true, true, true, true, true, true, true, true, true, false, false, false, false, false, false, false, false, false, false, false, false, false, false, false, false, false, false] rfl rfl (by kernel_rfl) (fun _ _ _ h => h) (Or.inl ⟨by rfl, ?_⟩) ?_ ?_
 rotate_left
 ·
  intro w'
  go_simp
  with_reducible rfl
 rotate_left
 ·
  simp only [Act.put, sq1, sq2, sq3, i64_w, i32_w]
  rfl
 refine pure_ (i := 26) (N := some 61) (v := ?_) (a' := ?_) #[true, true, true, true, true, true, true, true, true, true, true, true, true, true, true, true, true, true, true, true, true, true, true, true, true, true, true, false, false, false, false, false, false, false, false, false, false, false, false, false, false, false, false, false] rfl rfl (by kernel_rfl) (fun _ _ _ h => h) (Or.inl ⟨by rfl, ?_⟩) ?_ ?_
 rotate_left
 ·
  intro w'
  go_simp
  with_reducible rfl
 rotate_left
 ·
  simp only [Act.put, sq1, sq2, sq3, i64_w, i32_w]
  rfl
 refine pure_ (i := 27) (N := some 62) (v := ?_) (a' := ?_) #[true, true, true, true, true, true, true, true, true, true, true, true, true, true, true, true, true, true, true, true, true, true, true, true, true, true, true, true, false, false, false, false, false, false, false, false, false, false, false, false, false, false, false, false] rfl rfl (by kernel_rfl) (fun _ _ _ h => h) (Or.inl ⟨by rfl, ?_⟩) ?_ ?_
 rotate_left
 ·
  intro w'
  go_simp
  with_reducible rfl
 rotate_left
 ·
  simp only [Act.put, sq1, sq2, sq3, i64_w, i32_w]
  rfl
 refine pure_ (i := 28) (N := some 63) (v := ?_) (a' := ?_) #[true, true, true, true, true, true, true, true, true, true, true, true, true, true, true, true, true, true, true, true, true, true, true, true, true, true, true, true, true, false, false, false, false, false, false, false, false, false, false, false, false, false, false, false] rfl rfl (by kernel_rfl) (fun _ _ _ h => h) (Or.inl ⟨by rfl, ?_⟩) ?_ ?_
 rotate_left
 ·
  intro w'
  go_simp
  with_reducible rfl
 rotate_left
 ·
  simp only [Act.put, sq1, sq2, sq3, i64_w, i32_w]
  rfl
 refine take_ (i := 29) (N := some 64) (v := ?_) (a' := ?_) #[true, true, true, true, true, true, true, true, true, true, true, true, true, true, true, true, true, true, true, true, true, true, true, true, true, true, true, true, true, true, false, false, false, false, false, false, false, false, false, false, false, false, false, false] rfl rfl (by kernel_rfl) (fun _ _ _ h => h) (Or.inl ⟨by rfl, ?_⟩) hHeld ?_ ?_
 rotate_left
 ·
  intro w' s0
  obtain ⟨s0_, s1_, s2_, s3_, s4_, s5_, s6_, s7_, s8_, s9_, s10_, s11_, s12_, s13_, s14_, s15_, s16_, s17_, s18_, s19_, s20_, s21_, s22_, s23_, s24_, s25_, s26_, s27_, s28_, s29_, s30_⟩ := s0
  go_simp
  with_reducible rfl
 rotate_left
 ·
  simp only [Act.put, sq1, sq2, sq3, i64_w, i32_w]
  rfl
 refine one_ (i := 30) (N := some 65) #[true, true, true, true, true, true, true, true, true, true, true, true, true, true, true, true, true, true, true, true, true, true, true, true, true, true, true, true, true, true, true, false, false, false, false, false, false, false, false, false, false, false, false, false] rfl rfl (by kernel_rfl) (by decide) (fun K hK => ?_)
 have HCT := Lib.hid (show Calls Tryd.prog 13 #[.agg #[.int .i64 3, .int .i64 1, .int .i64 0, .int .i64 0, .int .i64 0, .int .i64 0, .int .i64 0, .int .i64 0, .slice none 0 0, .slice none 0 0, .int .i64 2, .int .i64 5, .int .i64 1, .int .i64 0, .slice none 0 0]] wf _ from pkt_May.calls 10000 3 1 0 0 0 0 0 0 none 0 [] none 0 [] 2 5 1 0 none 0 [] true wf (nilC _ _) (Nat.le_refl _) (nilC _ _) (Nat.le_refl _) (nilC _ _) (Nat.le_refl _) ex_may)
 refine goes_ Tryd.func13 (by kernel_rfl) rfl #[.agg #[.int .i64 3, .int .i64 1, .int .i64 0, .int .i64 0, .int .i64 0, .int .i64 0, .int .i64 0, .int .i64 0, .slice none 0 0, .slice none 0 0, .int .i64 2, .int .i64 5, .int .i64 1, .int .i64 0, .slice none 0 0]] (by rfl) rfl rfl (by simp only [List.map_toArray, List.map_cons, List.map_nil]; rfl) ?_
 with_reducible refine (HCT.out).mono ?_
 rintro e0 wg ⟨rfl, hb⟩
 refine ⟨_, rfl, ?_⟩
 have n0_ := ak (below_step HB.out hb)
 have n1_ := ak (blk_below HX1.out hb)
 have n2_ := ak (blk_below HX3.out hb)
 have n3_ := ak (Kd.C_below HC2.out hb)
 have n4_ := ak (Kd.C_below H8.out hb)
 have n5_ := ak (Kd.C_below H9.out hb)
 have n6_ := ak (Kd.C_below H14.out hb)
 clear HB HX1 HX3 HC2 H8 H9 H14
 have HB := n0_
 have HX1 := n1_
 have HX3 := n2_
 have HC2 := n3_
 have H8 := n4_
 have H9 := n5_
 have H14 := n6_
 clear n0_ n1_ n2_ n3_ n4_ n5_ n6_
 clear hb HCT
 refine hK.out _ _ (SX.mk_ HX1.out HX3.out HC2.out) (fun hHeld => ?_)
 clear hK K
 refine norm_ (a' := ?_) ?_ ?_
 rotate_left
 ·
  show Act.put _ (some 65) _ = _
  simp only [Act.put, sq1, sq2, sq3, i64_w, i32_w]
  rfl
 refine pure_ (i := 31) (N := some 66) (v := ?_) (a' := ?_) #[true, true, true, true, true, true, true, true, true, true, true, true, true, true, true, true, true, true, true, true, true, true, true, true, true, true, true, true, true, true, true, true, false, false, false, false, false, false, false, false, false, false, false, false] rfl rfl (by kernel_rfl) (fun _ _ _ h => h) (Or.inl ⟨by rfl, ?_⟩) ?_ ?_
 rotate_left
 ·
  intro w'
  go_simp
  with_reducible rfl
 rotate_left
 ·
  simp only [Act.put, sq1, sq2, sq3, i64_w, i32_w]
  rfl
 refine pure_ (i := 32) (N := some 67) (v := ?_) (a' := ?_) #[true, true, true, true, true, true, true, true, true, true, true, true, true, true, true, true, true, true, true, true, true, true, true, true, true, true, true, true, true, true, true, true, true, false, false, false, false, false, false, false, false, false, false, false] rfl rfl (by kernel_rfl) (fun _ _ _ h => h) (Or.inl ⟨by rfl, ?_⟩) ?_ ?_
 rotate_left
 ·
  intro w'
  go_simp
  with_reducible rfl
 rotate_left
 ·
  simp only [Act.put, sq1, sq2, sq3, i64_w, i32_w]
  rfl
 refine pure_ (i := 33) (N := some 68) (v := ?_) (a' := ?_) #[true, true, true, true, true, true, true, true, true, true, true, true, true, true, true, true, true, true, true, true, true, true, true, true, true, true, true, true, true, true, true, true, true, true, false, false, false, false, false, false, false, false, false, false] rfl rfl (by kernel_rfl) (fun _ _ _ h => h) (Or.inl ⟨by rfl, ?_⟩) ?_ ?_
 rotate_left
 ·
  intro w'
  go_simp
  with_reducible rfl
 rotate_left
 ·
  simp only [Act.put, sq1, sq2, sq3, i64_w, i32_w]
  rfl
 refine one_ (i := 34) (N := some 69) #[true, true, true, true, true, true, true, true, true, true, true, true, true, true, true, true, true, true, true, true, true, true, true, true, true, true, true, true, true, true, true, true, true, true, true, false, false, false, false, false, false, false, false, false] rfl rfl (by kernel_rfl) (by decide) (fun K hK => ?_)
 have HCT := Lib.hid (show Calls Tryd.prog 13 #[.agg #[.int .i64 0, .int .i64 0, .int .i64 0, .int .i64 0, .int .i64 0, .int .i64 0, .int .i64 0, .int .i64 0, .slice none 0 0, .slice none 0 0, .int .i64 0, .int .i64 0, .int .i64 0, .int .i64 0, .slice none 0 0]] wg _ from pkt_May.calls 10000 0 0 0 0 0 0 0 0 none 0 [] none 0 [] 0 0 0 0 none 0 [] false wg (nilC _ _) (Nat.le_refl _) (nilC _ _) (Nat.le_refl _) (nilC _ _) (Nat.le_refl _) ex_may0)
 refine goes_ Tryd.func13 (by kernel_rfl) rfl #[.agg #[.int .i64 0, .int .i64 0, .int .i64 0, .int .i64 0, .int .i64 0, .int .i64 0, .int .i64 0, .int .i64 0, .slice none 0 0, .slice none 0 0, .int .i64 0, .int .i64 0, .int .i64 0, .int .i64 0, .slice none 0 0]] (by rfl) rfl rfl (by simp only [List.map_toArray, List.map_cons, List.map_nil]; rfl) ?_
 with_reducible refine (HCT.out).mono ?_
 rintro e0 wh ⟨rfl, hb⟩
 refine ⟨_, rfl, ?_⟩
 have n0_ := ak (below_step HB.out hb)
 have n1_ := ak (blk_below HX1.out hb)
 have n2_ := ak (blk_below HX3.out hb)
 have n3_ := ak (Kd.C_below HC2.out hb)
 have n4_ := ak (Kd.C_below H8.out hb)
 have n5_ := ak (Kd.C_below H9.out hb)
 have n6_ := ak (Kd.C_below H14.out hb)
 clear HB HX1 HX3 HC2 H8 H9 H14
 have HB := n0_
 have HX1 := n1_
 have HX3 := n2_
 have HC2 := n3_
 have H8 := n4_
 have H9 := n5_
 have H14 := n6_
 clear n0_ n1_ n2_ n3_ n4_ n5_ n6_
 clear hb HCT
 refine hK.out _ _ (SX.mk_ HX1.out HX3.out HC2.out) (fun hHeld => ?_)
 clear hK K
 refine norm_ (a' := ?_) ?_ ?_
 rotate_left
 ·
  show Act.put _ (some 69) _ = _
  simp only [Act.put, sq1, sq2, sq3, i64_w, i32_w]
  rfl
 refine pure_ (i := 35) (N := some 70) (v := ?_) (a' := ?_) #[true, true, true, true, true, true, true, true, true, true, true, true, true, true, true, true, true, true, true, true, true, true, true, true, true, true, true, true, true, true, true, true, true, true, true, true, false, false, false, false, false, false, false, false] rfl rfl (by kernel_rfl) (fun _ _ _ h => h) (Or.inl ⟨by rfl, ?_⟩) ?_ ?_
 rotate_left
 ·
  intro w'
  go_simp
  with_reducible rfl
 rotate_left
 ·
  simp only [Act.put, sq1, sq2, sq3, i64_w, i32_w]
  rfl
 refine pure_ (i := 36) (N := some 71) (v := ?_) (a' := ?_) #[true, true, true, true, true, true, true, true, true, true, true, true, true, true, true, true, true, true, true, true, true, true, true, true, true, true, true, true, true, true, true, true, true, true, true, true, true, false, false, false, false, false, false, false] rfl rfl (by kernel_rfl) (fun _ _ _ h => h) (Or.inl ⟨by rfl, ?_⟩) ?_ ?_
 rotate_left
 ·
  intro w'
  go_simp
  with_reducible rfl
 rotate_left
 ·
  simp only [Act.put, sq1, sq2, sq3, i64_w, i32_w]
  rfl
 refine pure_ (i := 37) (N := some 72) (v := ?_) (a' := ?_) #[true, true, true, true, true, true, true, true, true, true, true, true, true, true, true, true, true, true, true, true, true, true, true, true, true, true, true, true, true, true, true, true, true, true, true, true, true, true, false, false, false, false, false, false] rfl rfl (by kernel_rfl) (fun _ _ _ h => h) (Or.inl ⟨by rfl, ?_⟩) ?_ ?_
 rotate_left
 ·
  intro w'
  go_simp
  with_reducible rfl
 rotate_left
 ·
  simp only [Act.put, sq1, sq2, sq3, i64_w, i32_w]
  rfl
 refine pure_ (i := 39) (N := some 74) (v := ?_) (a' := ?_) #[true, true, true, true, true, true, true, true, true, true, true, true, true, true, true, true, true, true, true, true, true, true, true, true, true, true, true, true, true, true, true, true, true, true, true, true, true, true, false, true, false, false, false, false] rfl rfl (by kernel_rfl) (fun _ _ _ h => h) (Or.inl ⟨by rfl, ?_⟩) ?_ ?_
 rotate_left
 ·
  intro w'
  go_simp
  with_reducible rfl
 rotate_left
 ·
  simp only [Act.put, sq1, sq2, sq3, i64_w, i32_w]
  rfl
 refine take_ (i := 38) (N := some 73) (v := ?_) (a' := ?_) #[true, true, true, true, true, true, true, true, true, true, true, true, true, true, true, true, true, true, true, true, true, true, true, true, true, true, true, true, true, true, true, true, true, true, true, true, true, true, true, true, false, false, false, false] rfl rfl (by kernel_rfl) (fun _ _ _ h => h) (Or.inl ⟨by rfl, ?_⟩) hHeld ?_ ?_
 rotate_left
 ·
  intro w' s0
  obtain ⟨s0_, s1_, s2_, s3_, s4_, s5_, s6_, s7_, s8_, s9_, s10_, s11_, s12_, s13_, s14_, s15_, s16_, s17_, s18_, s19_, s20_, s21_, s22_, s23_, s24_, s25_, s26_, s27_, s28_, s29_, s30_⟩ := s0
  go_simp
  with_reducible rfl
 rotate_left
 ·
  simp only [Act.put, sq1, sq2, sq3, i64_w, i32_w]
  rfl
 refine one_ (i := 40) (N := some 75) #[true, true, true, true, true, true, true, true, true, true, true, true, true, true, true, true, true, true, true, true, true, true, true, true, true, true, true, true, true, true, true, true, true, true, true, true, true, true, true, true, true, false, false, false] rfl rfl (by kernel_rfl) (by decide) (fun K hK => ?_)
 have HCT := Lib.hid (show Calls Tryd.prog 15 #[.agg #[.int .i64 3, .int .i64 1, .int .i64 0, .int .i64 0, .int .i64 0, .int .i64 0, .int .i64 0, .int .i64 0, .slice none 0 0, .slice none 0 0, .int .i64 2, .int .i64 5, .int .i64 1, .int .i64 0, .slice none 0 0], .agg #[.int .i64 0, .int .i64 0, .int .i64 0, .int .i64 0, .int .i64 0, .int .i64 0, .int .i64 0, .int .i64 0, .slice none 0 0, .slice none 0 0, .int .i64 0, .int .i64 0, .int .i64 0, .int .i64 0, .slice none 0 0]] wh _ from pkt_Same.calls 10000 3 1 0 0 0 0 0 0 none 0 [] none 0 [] 2 5 1 0 none 0 [] 0 0 0 0 0 0 0 0 none 0 [] none 0 [] 0 0 0 0 none 0 [] false wh (nilC _ _) (Nat.le_refl _) (nilC _ _) (Nat.le_refl _) (nilC _ _) (Nat.le_refl _) (nilC _ _) (Nat.le_refl _) (nilC _ _) (Nat.le_refl _) (nilC _ _) (Nat.le_refl _) ex_same0)
 refine goes_ Tryd.func15 (by kernel_rfl) rfl #[.agg #[.int .i64 3, .int .i64 1, .int .i64 0, .int .i64 0, .int .i64 0, .int .i64 0, .int .i64 0, .int .i64 0, .slice none 0 0, .slice none 0 0, .int .i64 2, .int .i64 5, .int .i64 1, .int .i64 0, .slice none 0 0], .agg #[.int .i64 0, .int .i64 0, .int .i64 0, .int .i64 0, .int .i64 0, .int .i64 0, .int .i64 0, .int .i64 0, .slice none 0 0, .slice none 0 0, .int .i64 0, .int .i64 0, .int .i64 0, .int .i64 0, .slice none 0 0]] (by rfl) rfl rfl (by simp only [List.map_toArray, List.map_cons, List.map_nil]; rfl) ?_
 with_reducible refine (HCT.out).mono ?_
 rintro e0 wi ⟨rfl, hb⟩
 refine ⟨_, rfl, ?_⟩
 have n0_ := ak (below_step HB.out hb)
 have n1_ := ak (blk_below HX1.out hb)
 have n2_ := ak (blk_below HX3.out hb)
 have n3_ := ak (Kd.C_below HC2.out hb)
 have n4_ := ak (Kd.C_below H8.out hb)
 have n5_ := ak (Kd.C_below H9.out hb)
 have n6_ := ak (Kd.C_below H14.out hb)
 clear HB HX1 HX3 HC2 H8 H9 H14
 have HB := n0_
 have HX1 := n1_
 have HX3 := n2_
 have HC2 := n3_
 have H8 := n4_
 have H9 := n5_
 have H14 := n6_
 clear n0_ n1_ n2_ n3_ n4_ n5_ n6_
 clear hb HCT
 refine hK.out _ _ (SX.mk_ HX1.out HX3.out HC2.out) (fun hHeld => ?_)
 clear hK K
 refine norm_ (a' := ?_) ?_ ?_
 rotate_left
 ·
  show Act.put _ (some 75) _ = _
  simp only [Act.put, sq1, sq2, sq3, i64_w, i32_w]
  rfl
 refine pure_ (i := 41) (N := some 76) (v := ?_) (a' := ?_) #[true, true, true, true, true, true, true, true, true, true, true, true, true, true, true, true, true, true, true, true, true, true, true, true, true, true, true, true, true, true, true, true, true, true, true, true, true, true, true, true, true, true, false, false] rfl rfl (by kernel_rfl) (fun _ _ _ h => h) (Or.inl ⟨by rfl, ?_⟩) ?_ ?_
 rotate_left
 ·
  intro w'
  go_simp
  with_reducible rfl
 rotate_left
 ·
  simp only [Act.put, sq1, sq2, sq3, i64_w, i32_w]
  rfl
 refine pure_ (i := 42) (N := some 77) (v := ?_) (a' := ?_) #[true, true, true, true, true, true, true, true, true, true, true, true, true, true, true, true, true, true, true, true, true, true, true, true, true, true, true, true, true, true, true, true, true, true, true, true, true, true, true, true, true, true, true, false] rfl rfl (by kernel_rfl) (fun _ _ _ h => h) (Or.inl ⟨by rfl, ?_⟩) ?_ ?_
 rotate_left
 ·
  intro w'
  go_simp
  with_reducible rfl
 rotate_left
 ·
  simp only [Act.put, sq1, sq2, sq3, i64_w, i32_w]
  rfl
 refine pure_ (i := 43) (N := some 0) (v := ?_) (a' := ?_) #[true, true, true, true, true, true, true, true, true, true, true, true, true, true, true, true, true, true, true, true, true, true, true, true, true, true, true, true, true, true, true, true, true, true, true, true, true, true, true, true, true, true, true, true] rfl rfl (by kernel_rfl) (fun _ _ _ h => h) (Or.inl ⟨by rfl, ?_⟩) ?_ ?_
 rotate_left
 ·
  intro w'
  go_simp
  with_reducible rfl
 rotate_left
 ·
  simp only [Act.put, sq1, sq2, sq3, i64_w, i32_w]
  rfl
 refine done_ (by kernel_rfl) ?_
 clear hHeld
 exact ⟨rfl, rfl, HB.out⟩
set_option maxRecDepth 100000 in
set_option maxHeartbeats 4000000 in
theorem precentorlaw04_shown.calls (r : Bool) (w : World) (hG : GB w) (h : precentorlaw04_shown.f = some r) :
  Calls Tryd.prog 9 #[] w fun e w' => e = .returned (.bool r) ∧ Below w.heap.size w w' := by
 obtain rfl := Option.some.inj h
 clear h
 have HG := Lib.hid hG
 clear hG
 obtain ⟨w0, hw0, hB0, hs0, X0⟩ := boxed15 w (.int .i64 0) (.int .i64 0) (.int .i64 0) (.int .i64 0) (.int .i64 0) (.int .i64 0) (.int .i64 0) (.int .i64 0) (.slice none 0 0) (.slice none 0 0) (.int .i64 0) (.int .i64 0) (.int .i64 0) (.int .i64 0) (.slice none 0 0)
 obtain ⟨⟨q0, q1, q2, q3, q4, q5, q6, q7, q8, q9, q10, q11, q12, q13, q14⟩, ⟨f0, f1, f2, f3, f4, f5, f6, f7, f8, f9, f10, f11, f12, f13, f14⟩⟩ := cells15 X0
 have HB0 := ak hB0
 have HX0 := ak X0
 clear hB0 X0 hs0
 go_enter Tryd.func9, Tryd.ntmps9
 go_upto_region 2 with fail
 clear q0 f0 q1 f1 q2 f2 q3 f3 q4 f4 q5 f5 q6 f6 q7 f7 q8 f8 q9 f9 q10 f10 q11 f11 q12 f12 q13 f13 q14 f14
 obtain ⟨w1, hw1, X1, hmv⟩ := box15 HX0.out (.int .i64 3) (.int .i64 1) (.int .i64 0) (.int .i64 0) (.int .i64 0) (.int .i64 0) (.int .i64 0) (.int .i64 0) (.slice none 0 0) (.slice none 0 0) (.int .i64 2) (.int .i64 5) (.int .i64 1) (.int .i64 0) (.slice none 0 0)
 rw [hw1]
 clear hw1 hw0
 have HB := ak (show Below w.heap.size w w1 from Mv.to HB0.out hmv (fun k hk => by omega) HB0.out.size)
 have HX1 := ak X1
 clear X1 hmv HX0 HB0 w0
 have HCT := Lib.hid (show Calls Tryd.prog 17 #[.agg #[.int .i64 3, .int .i64 1, .int .i64 0, .int .i64 0, .int .i64 0, .int .i64 0, .int .i64 0, .int .i64 0, .slice none 0 0, .slice none 0 0, .int .i64 2, .int .i64 5, .int .i64 1, .int .i64 0, .slice none 0 0]] w1 _ from pkt_Bytes.calls 3 1 0 0 0 0 0 0 none 0 [] none 0 [] 2 5 1 0 none 0 [] _ w1 (nilC _ _) (Nat.le_refl _) (nilC _ _) (Nat.le_refl _) (nilC _ _) (Nat.le_refl _) (GB.below HG.out HB.out) ex_bytes)
 obtain ⟨⟨q0, q1, q2, q3, q4, q5, q6, q7, q8, q9, q10, q11, q12, q13, q14⟩, ⟨f0, f1, f2, f3, f4, f5, f6, f7, f8, f9, f10, f11, f12, f13, f14⟩⟩ := cells15 HX1.out
 go_wp2_with fail
 refine HCT.out.mono ?_
 rintro e w2 ⟨v2, rfl, hr, hb⟩
 obtain ⟨A2, c2, rfl, hl2, hC2⟩ := Kd.R_reads hr
 obtain ⟨bb, hbb⟩ : ∃ bb, exB = bb := ⟨_, rfl⟩
 rw [hbb] at hl2 hC2 ⊢
 have HEB := Lib.hid hbb
 clear HCT hr hbb q0 f0 q1 f1 q2 f2 q3 f3 q4 f4 q5 f5 q6 f6 q7 f7 q8 f8 q9 f9 q10 f10 q11 f11 q12 f12 q13 f13 q14 f14
 have n0_ := ak (below_step HB.out hb)
 have n1_ := ak (blk_below HX1.out hb)
 clear HB HX1
 have HB := n0_
 have HX1 := n1_
 clear n0_ n1_
 have HC2 := ak hC2
 have HL2 := Lib.hid hl2
 clear hb hC2 hl2
 have HCT := Lib.hid (show Calls Tryd.prog 11 #[.slice A2 bb.length c2] w2 _ from pkt_Read.calls A2 c2 bb _ _ _ _ _ _ _ _ _ _ _ _ _ _ _ _ w2 HC2.out HL2.out (GB.below HG.out HB.out) (by rw [← HEB.out]; exact ex_read))
 go_wp2_with fail
 refine HCT.out.mono ?_
 rintro e w3 ⟨v8, v9, v14, rfl, h8, h9, h14, hb⟩
 obtain ⟨A8, c8, rfl, hC8⟩ := nilR h8
 obtain ⟨A9, c9, rfl, hC9⟩ := nilR h9
 obtain ⟨A14, c14, rfl, hC14⟩ := nilR h14
 clear HCT h8 h9 h14
 have n0_ := ak (below_step HB.out hb)
 have n1_ := ak (blk_below HX1.out hb)
 have n2_ := ak (Kd.C_below HC2.out hb)
 clear HB HX1 HC2
 have HB := n0_
 have HX1 := n1_
 have HC2 := n2_
 clear n0_ n1_ n2_
 have H8 := ak hC8
 have H9 := ak hC9
 have H14 := ak hC14
 clear hb hC8 hC9 hC14
 obtain ⟨u1, hu, hBu, hsu, Xu⟩ := boxed15 w3 (.int .i64 0) (.int .i64 0) (.int .i64 0) (.int .i64 0) (.int .i64 0) (.int .i64 0) (.int .i64 0) (.int .i64 0) (.slice none 0 0) (.slice none 0 0) (.int .i64 0) (.int .i64 0) (.int .i64 0) (.int .i64 0) (.slice none 0 0)
 obtain ⟨⟨q0, q1, q2, q3, q4, q5, q6, q7, q8, q9, q10, q11, q12, q13, q14⟩, ⟨f0, f1, f2, f3, f4, f5, f6, f7, f8, f9, f10, f11, f12, f13, f14⟩⟩ := cells15 Xu
 have HBu := ak hBu
 have HXu := ak Xu
 clear hBu Xu
 go_upto_region 4 with fail
 clear q0 f0 q1 f1 q2 f2 q3 f3 q4 f4 q5 f5 q6 f6 q7 f7 q8 f8 q9 f9 q10 f10 q11 f11 q12 f12 q13 f13 q14 f14
 obtain ⟨w4, hv, Xv, hmv⟩ := box15 HXu.out (.int .i64 3) (.int .i64 1) (.int .i64 0) (.int .i64 0) (.int .i64 0) (.int .i64 0) (.int .i64 0) (.int .i64 0) (.slice A8 0 c8) (.slice A9 0 c9) (.int .i64 2) (.int .i64 5) (.int .i64 1) (.int .i64 0) (.slice A14 0 c14)
 rw [hv]
 clear hv hu
 have hBv : Below w3.heap.size w3 w4 := Mv.to HBu.out hmv (fun k hk => by omega) HBu.out.size
 have HX3 := ak Xv
 clear Xv HXu HBu hmv hsu
 have n0_ := ak (below_step HB.out hBv)
 have n1_ := ak (blk_below HX1.out hBv)
 have n2_ := ak (Kd.C_below HC2.out hBv)
 have n3_ := ak (Kd.C_below H8.out hBv)
 have n4_ := ak (Kd.C_below H9.out hBv)
 have n5_ := ak (Kd.C_below H14.out hBv)
 clear HB HX1 HC2 H8 H9 H14
 have HB := n0_
 have HX1 := n1_
 have HC2 := n2_
 have H8 := n3_
 have H9 := n4_
 have H14 := n5_
 clear n0_ n1_ n2_ n3_ n4_ n5_
 clear hBv u1
 generalize w3.heap.size = g3 at *
 have HCT := Lib.hid (show Calls Tryd.prog 11 #[.slice none 0 0] w4 _ from pkt_Read.calls none 0 [] _ _ _ _ _ _ _ _ _ _ _ _ _ _ _ _ w4 (nilC _ _) (Nat.le_refl _) (GB.below HG.out HB.out) ex_read0)
 go_wp2_with fail
 refine HCT.out.mono ?_
 rintro e w5 ⟨v8_, v9_, v14_, rfl, h8, h9, h14, hb⟩
 obtain ⟨D58, d58, rfl, hD8⟩ := nilR h8
 obtain ⟨D59, d59, rfl, hD9⟩ := nilR h9
 obtain ⟨D514, d514, rfl, hD14⟩ := nilR h14
 clear HCT h8 h9 h14 hD8 hD9 hD14
 have n0_ := ak (below_step HB.out hb)
 have n1_ := ak (blk_below HX1.out hb)
 have n2_ := ak (blk_below HX3.out hb)
 have n3_ := ak (Kd.C_below HC2.out hb)
 have n4_ := ak (Kd.C_below H8.out hb)
 have n5_ := ak (Kd.C_below H9.out hb)
 have n6_ := ak (Kd.C_below H14.out hb)
 clear HB HX1 HX3 HC2 H8 H9 H14
 have HB := n0_
 have HX1 := n1_
 have HX3 := n2_
 have HC2 := n3_
 have H8 := n4_
 have H9 := n5_
 have H14 := n6_
 clear n0_ n1_ n2_ n3_ n4_ n5_ n6_
 clear hb
 obtain ⟨u2, hu, hBu, hsu, Xu⟩ := boxed15 w5 (.int .i64 0) (.int .i64 0) (.int .i64 0) (.int .i64 0) (.int .i64 0) (.int .i64 0) (.int .i64 0) (.int .i64 0) (.slice none 0 0) (.slice none 0 0) (.int .i64 0) (.int .i64 0) (.int .i64 0) (.int .i64 0) (.slice none 0 0)
 obtain ⟨⟨q0, q1, q2, q3, q4, q5, q6, q7, q8, q9, q10, q11, q12, q13, q14⟩, ⟨f0, f1, f2, f3, f4, f5, f6, f7, f8, f9, f10, f11, f12, f13, f14⟩⟩ := cells15 Xu
 have HBu := ak hBu
 have HXu := ak Xu
 clear hBu Xu
 go_upto_region 5 with fail
 clear q0 f0 q1 f1 q2 f2 q3 f3 q4 f4 q5 f5 q6 f6 q7 f7 q8 f8 q9 f9 q10 f10 q11 f11 q12 f12 q13 f13 q14 f14
 obtain ⟨w6, hv, Xv, hmv⟩ := box15 HXu.out (.int .i64 0) (.int .i64 0) (.int .i64 0) (.int .i64 0) (.int .i64 0) (.int .i64 0) (.int .i64 0) (.int .i64 0) (.slice D58 0 d58) (.slice D59 0 d59) (.int .i64 0) (.int .i64 0) (.int .i64 0) (.int .i64 0) (.slice D514 0 d514)
 rw [hv]
 clear hv hu
 have hBv : Below w5.heap.size w5 w6 := Mv.to HBu.out hmv (fun k hk => by omega) HBu.out.size
 clear Xv HXu HBu hmv hsu
 have n0_ := ak (below_step HB.out hBv)
 have n1_ := ak (blk_below HX1.out hBv)
 have n2_ := ak (blk_below HX3.out hBv)
 have n3_ := ak (Kd.C_below HC2.out hBv)
 have n4_ := ak (Kd.C_below H8.out hBv)
 have n5_ := ak (Kd.C_below H9.out hBv)
 have n6_ := ak (Kd.C_below H14.out hBv)
 clear HB HX1 HX3 HC2 H8 H9 H14
 have HB := n0_
 have HX1 := n1_
 have HX3 := n2_
 have HC2 := n3_
 have H8 := n4_
 have H9 := n5_
 have H14 := n6_
 clear n0_ n1_ n2_ n3_ n4_ n5_ n6_
 clear hBv u2
 have kc := Lib.run_convert_bytes_const (P := Tryd.prog) w6 23 5 #[.int .u8 97, .int .u8 98, .int .u8 99, .int .u8 100, .int .u8 101, .int .u8 102, .int .u8 103, .int .u8 104] 8 8 Tryd.underlying23 Tryd.underlying5
 have hb6 := below_alloc (Below.refl w6.heap.size w6) (Obj.cells #[.int .u8 97, .int .u8 98, .int .u8 99, .int .u8 100, .int .u8 101, .int .u8 102, .int .u8 103, .int .u8 104] 5 (8, 8 + 1))
 have HLC := ak (lit_C w6 ex8 #[.int .u8 97, .int .u8 98, .int .u8 99, .int .u8 100, .int .u8 101, .int .u8 102, .int .u8 103, .int .u8 104] rfl 8 rfl (by decide) 5 (8, 8 + 1))
 have HCT := Lib.hid (show Calls Tryd.prog 11 #[.slice (some ⟨w6.heap.size, 0, none⟩) 8 8] (w6.alloc (.cells #[.int .u8 97, .int .u8 98, .int .u8 99, .int .u8 100, .int .u8 101, .int .u8 102, .int .u8 103, .int .u8 104] 5 (8, 8 + 1))) _ from pkt_Read.calls (some ⟨w6.heap.size, 0, none⟩) 8 ex8 _ _ _ _ _ _ _ _ _ _ _ _ _ _ _ _ _ HLC.out (by decide) (GB.below HG.out (below_step HB.out hb6)) ex_read8)
 have n0_ := ak (below_step HB.out hb6)
 have n1_ := ak (blk_below HX1.out hb6)
 have n2_ := ak (blk_below HX3.out hb6)
 have n3_ := ak (Kd.C_below HC2.out hb6)
 have n4_ := ak (Kd.C_below H8.out hb6)
 have n5_ := ak (Kd.C_below H9.out hb6)
 have n6_ := ak (Kd.C_below H14.out hb6)
 clear HB HX1 HX3 HC2 H8 H9 H14
 have HB := n0_
 have HX1 := n1_
 have HX3 := n2_
 have HC2 := n3_
 have H8 := n4_
 have H9 := n5_
 have H14 := n6_
 clear n0_ n1_ n2_ n3_ n4_ n5_ n6_
 clear hb6 HLC
 go_wp2_with fail
 clear kc
 refine HCT.out.mono ?_
 rintro e w7 ⟨v8_, v9_, v14_, rfl, h8, h9, h14, hb⟩
 obtain ⟨D78, d78, rfl, hD8⟩ := nilR h8
 obtain ⟨D79, d79, rfl, hD9⟩ := nilR h9
 obtain ⟨D714, d714, rfl, hD14⟩ := nilR h14
 clear HCT h8 h9 h14 hD8 hD9 hD14
 have n0_ := ak (below_step HB.out hb)
 have n1_ := ak (blk_below HX1.out hb)
 have n2_ := ak (blk_below HX3.out hb)
 have n3_ := ak (Kd.C_below HC2.out hb)
 have n4_ := ak (Kd.C_below H8.out hb)
 have n5_ := ak (Kd.C_below H9.out hb)
 have n6_ := ak (Kd.C_below H14.out hb)
 clear HB HX1 HX3 HC2 H8 H9 H14
 have HB := n0_
 have HX1 := n1_
 have HX3 := n2_
 have HC2 := n3_
 have H8 := n4_
 have H9 := n5_
 have H14 := n6_
 clear n0_ n1_ n2_ n3_ n4_ n5_ n6_
 clear hb
 obtain ⟨u3, hu, hBu, hsu, Xu⟩ := boxed15 w7 (.int .i64 0) (.int .i64 0) (.int .i64 0) (.int .i64 0) (.int .i64 0) (.int .i64 0) (.int .i64 0) (.int .i64 0) (.slice none 0 0) (.slice none 0 0) (.int .i64 0) (.int .i64 0) (.int .i64 0) (.int .i64 0) (.slice none 0 0)
 obtain ⟨⟨q0, q1, q2, q3, q4, q5, q6, q7, q8, q9, q10, q11, q12, q13, q14⟩, ⟨f0, f1, f2, f3, f4, f5, f6, f7, f8, f9, f10, f11, f12, f13, f14⟩⟩ := cells15 Xu
 have HBu := ak hBu
 have HXu := ak Xu
 clear hBu Xu
 go_upto_region 6 with fail
 clear q0 f0 q1 f1 q2 f2 q3 f3 q4 f4 q5 f5 q6 f6 q7 f7 q8 f8 q9 f9 q10 f10 q11 f11 q12 f12 q13 f13 q14 f14
 obtain ⟨w8, hv, Xv, hmv⟩ := box15 HXu.out (.int .i64 0) (.int .i64 0) (.int .i64 0) (.int .i64 0) (.int .i64 0) (.int .i64 0) (.int .i64 0) (.int .i64 0) (.slice D78 0 d78) (.slice D79 0 d79) (.int .i64 0) (.int .i64 0) (.int .i64 0) (.int .i64 0) (.slice D714 0 d714)
 rw [hv]
 clear hv hu
 have hBv : Below w7.heap.size w7 w8 := Mv.to HBu.out hmv (fun k hk => by omega) HBu.out.size
 clear Xv HXu HBu hmv hsu
 have n0_ := ak (below_step HB.out hBv)
 have n1_ := ak (blk_below HX1.out hBv)
 have n2_ := ak (blk_below HX3.out hBv)
 have n3_ := ak (Kd.C_below HC2.out hBv)
 have n4_ := ak (Kd.C_below H8.out hBv)
 have n5_ := ak (Kd.C_below H9.out hBv)
 have n6_ := ak (Kd.C_below H14.out hBv)
 clear HB HX1 HX3 HC2 H8 H9 H14
 have HB := n0_
 have HX1 := n1_
 have HX3 := n2_
 have HC2 := n3_
 have H8 := n4_
 have H9 := n5_
 have H14 := n6_
 clear n0_ n1_ n2_ n3_ n4_ n5_ n6_
 clear hBv u3
 have hb8 := below_alloc (Below.refl w8.heap.size w8) (Obj.cells #[.int .u8 1, .int .u8 2, .int .u8 3] 5)
 have HLC := ak (lit_C w8 ex3 #[.int .u8 1, .int .u8 2, .int .u8 3] rfl 3 rfl (by decide) 5 (0, 0))
 have HCT := Lib.hid (show Calls Tryd.prog 19 #[.slice (some ⟨w8.heap.size, 0, none⟩) 3 3] (w8.alloc (.cells #[.int .u8 1, .int .u8 2, .int .u8 3] 5)) _ from precentorref01_Seal.calls 400 (some ⟨w8.heap.size, 0, none⟩) 3 ex3 _ _ HLC.out (by decide) ex_seal3)
 have n0_ := ak (below_step HB.out hb8)
 have n1_ := ak (blk_below HX1.out hb8)
 have n2_ := ak (blk_below HX3.out hb8)
 have n3_ := ak (Kd.C_below HC2.out hb8)
 have n4_ := ak (Kd.C_below H8.out hb8)
 have n5_ := ak (Kd.C_below H9.out hb8)
 have n6_ := ak (Kd.C_below H14.out hb8)
 clear HB HX1 HX3 HC2 H8 H9 H14
 have HB := n0_
 have HX1 := n1_
 have HX3 := n2_
 have HC2 := n3_
 have H8 := n4_
 have H9 := n5_
 have H14 := n6_
 clear n0_ n1_ n2_ n3_ n4_ n5_ n6_
 clear hb8 HLC
 go_wp2_with fail
 refine HCT.out.mono ?_
 rintro e w9 ⟨v9, rfl, hr, hb⟩
 obtain ⟨A7, c7, rfl, hl7, hC7⟩ := Kd.R_reads hr
 clear HCT hr
 have n0_ := ak (below_step HB.out hb)
 have n1_ := ak (blk_below HX1.out hb)
 have n2_ := ak (blk_below HX3.out hb)
 have n3_ := ak (Kd.C_below HC2.out hb)
 have n4_ := ak (Kd.C_below H8.out hb)
 have n5_ := ak (Kd.C_below H9.out hb)
 have n6_ := ak (Kd.C_below H14.out hb)
 clear HB HX1 HX3 HC2 H8 H9 H14
 have HB := n0_
 have HX1 := n1_
 have HX3 := n2_
 have HC2 := n3_
 have H8 := n4_
 have H9 := n5_
 have H14 := n6_
 clear n0_ n1_ n2_ n3_ n4_ n5_ n6_
 have HCT := Lib.hid (show Calls Tryd.prog 11 #[.slice A7 (ex3 ++ tl (sumOf ex3)).length c7] w9 _ from pkt_Read.calls A7 c7 (ex3 ++ tl (sumOf ex3)) _ _ _ _ _ _ _ _ _ _ _ _ _ _ _ _ w9 hC7 hl7 (GB.below HG.out HB.out) ex_read3)
 clear hb hC7 hl7
 generalize (ex3 ++ tl (sumOf ex3)).length = n7 at *
 go_wp2_with fail
 refine HCT.out.mono ?_
 rintro e wa ⟨v8_, v9_, v14_, rfl, h8, h9, h14, hb⟩
 obtain ⟨D98, d98, rfl, hD8⟩ := nilR h8
 obtain ⟨D99, d99, rfl, hD9⟩ := nilR h9
 obtain ⟨D914, d914, rfl, hD14⟩ := nilR h14
 clear HCT h8 h9 h14 hD8 hD9 hD14
 have n0_ := ak (below_step HB.out hb)
 have n1_ := ak (blk_below HX1.out hb)
 have n2_ := ak (blk_below HX3.out hb)
 have n3_ := ak (Kd.C_below HC2.out hb)
 have n4_ := ak (Kd.C_below H8.out hb)
 have n5_ := ak (Kd.C_below H9.out hb)
 have n6_ := ak (Kd.C_below H14.out hb)
 clear HB HX1 HX3 HC2 H8 H9 H14
 have HB := n0_
 have HX1 := n1_
 have HX3 := n2_
 have HC2 := n3_
 have H8 := n4_
 have H9 := n5_
 have H14 := n6_
 clear n0_ n1_ n2_ n3_ n4_ n5_ n6_
 clear hb
 obtain ⟨u4, hu, hBu, hsu, Xu⟩ := boxed15 wa (.int .i64 0) (.int .i64 0) (.int .i64 0) (.int .i64 0) (.int .i64 0) (.int .i64 0) (.int .i64 0) (.int .i64 0) (.slice none 0 0) (.slice none 0 0) (.int .i64 0) (.int .i64 0) (.int .i64 0) (.int .i64 0) (.slice none 0 0)
 obtain ⟨⟨q0, q1, q2, q3, q4, q5, q6, q7, q8, q9, q10, q11, q12, q13, q14⟩, ⟨f0, f1, f2, f3, f4, f5, f6, f7, f8, f9, f10, f11, f12, f13, f14⟩⟩ := cells15 Xu
 have HBu := ak hBu
 have HXu := ak Xu
 clear hBu Xu
 go_upto_region 7 with fail
 clear q0 f0 q1 f1 q2 f2 q3 f3 q4 f4 q5 f5 q6 f6 q7 f7 q8 f8 q9 f9 q10 f10 q11 f11 q12 f12 q13 f13 q14 f14
 obtain ⟨wb, hv, Xv, hmv⟩ := box15 HXu.out (.int .i64 0) (.int .i64 0) (.int .i64 0) (.int .i64 0) (.int .i64 0) (.int .i64 0) (.int .i64 0) (.int .i64 0) (.slice D98 0 d98) (.slice D99 0 d99) (.int .i64 0) (.int .i64 0) (.int .i64 0) (.int .i64 0) (.slice D914 0 d914)
 rw [hv]
 clear hv hu
 have hBv : Below wa.heap.size wa wb := Mv.to HBu.out hmv (fun k hk => by omega) HBu.out.size
 clear Xv HXu HBu hmv hsu
 have n0_ := ak (below_step HB.out hBv)
 have n1_ := ak (blk_below HX1.out hBv)
 have n2_ := ak (blk_below HX3.out hBv)
 have n3_ := ak (Kd.C_below HC2.out hBv)
 have n4_ := ak (Kd.C_below H8.out hBv)
 have n5_ := ak (Kd.C_below H9.out hBv)
 have n6_ := ak (Kd.C_below H14.out hBv)
 clear HB HX1 HX3 HC2 H8 H9 H14
 have HB := n0_
 have HX1 := n1_
 have HX3 := n2_
 have HC2 := n3_
 have H8 := n4_
 have H9 := n5_
 have H14 := n6_
 clear n0_ n1_ n2_ n3_ n4_ n5_ n6_
 clear hBv u4
 refine wp_mono (shown_last w.heap.size g3 A2 c2 bb A8 c8 A9 c9 A14 c14 _ _ _ _ _ _ _ _ _ _ _ _ _ _ _ _ _ _ _ _ _ _ _ _ _ _ _ wb HX1.out HX3.out HC2.out H8.out H9.out H14.out HEB.out) ?_
 intro e_ a_ W_ h_
 obtain ⟨rfl, ht, hd, hb⟩ : e_ = .normal ∧ a_.tmps[0]? = some (.bool true) ∧ a_.defers = [] ∧ Below wb.heap.size wb W_ := by cases e_ <;> first | exact ⟨rfl, h_⟩ | exact h_.elim
 clear h_
 refine ‹∀ (a : Act) (w' : World), _ → _› _ _ ?_
 refine wp_ret ?_
 change bodyPost _ _ (fun e w' => e = .returned (.bool true) ∧ Below w.heap.size w w') Exit.ret _ _
 exact bodyPost_ret (v := .bool true) (by simp [results, Tryd.results9, go_sem, ht]) hd ⟨rfl, below_step HB.out hb⟩
end Go.Proofs.YtieolhhokepkjaaDoor.Print
