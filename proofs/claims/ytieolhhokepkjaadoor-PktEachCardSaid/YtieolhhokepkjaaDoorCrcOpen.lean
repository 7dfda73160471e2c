/- The document's Open is the program's. Conditions stand in each lemma. -/
import Derived.Test.YtieolhhokepkjaaDoorHandK
import Derived.Test.YtieolhhokepkjaaDoorPrint3
import Derived.Lib.Bytes
import Derived.Test.YtieolhhokepkjaaDoorPrint0
import Derived.Test.YtieolhhokepkjaaDoorHand
namespace Go.Proofs.YtieolhhokepkjaaDoor.CrcPlain
set_option linter.unusedVariables false
set_option linter.unusedSimpArgs false
open Go.RowKit Go.Proofs.YtieolhhokepkjaaDoor.Print Go.Proofs.YtieolhhokepkjaaDoor.Crc
open Go.Proofs.YtieolhhokepkjaaDoorW.PrintWords Go.Proofs.YtieolhhokepkjaaDoorW.PrintLast Go.Proofs.YtieolhhokepkjaaDoorW.PrintMore
theorem wrap_id {x : Int} (h0 : -9223372036854775808 ≤ x) (h : x ≤ 9223372036854775807) : wrap64 x = x := by
 unfold wrap64; omega
theorem wf_u8 {n : Int} (h : (Lit.int .u8 n).wf = true) : 0 ≤ n ∧ n ≤ 255 := by
 simpa [Lit.wf, IntKind.min, IntKind.max, IntKind.bits, IntKind.signed] using h
theorem by_of {l : List Int} (h : l.length ≤ maxLen ∧ ∀ y_ ∈ l, (Lit.int .u8 y_).wf = true) : Byt l := fun c hc => by
 have := wf_u8 (h.2 c hc)
 omega
theorem str_eq {l m : List Int} (hl : Byt l) (hm : Byt m) : (strOfNums l).toList = (strOfNums m).toList ↔ l = m := by
 rw [Lib.strOfNums_toList, Lib.strOfNums_toList]
 unfold Lib.bytesOf
 constructor
 ·
  intro h
  induction l generalizing m with
  | nil => cases m; rfl; simp at h
  | cons c l ih =>
   cases m with
   | nil => simp at h
   | cons d m =>
    simp only [List.map_cons, List.cons.injEq] at h
    have h1 := hl c List.mem_cons_self
    have h2 := hm d List.mem_cons_self
    have h3 := congrArg UInt8.toNat h.1
    rw [UInt8.toNat_ofNat', UInt8.toNat_ofNat'] at h3
    rw [show c = d by omega, ih (fun x hx => hl x (List.mem_cons_of_mem _ hx)) (fun x hx => hm x (List.mem_cons_of_mem _ hx)) h.2]
 ·
  intro h; rw [h]
theorem rd_nat (l : List Int) (i : Nat) : rd l (i : Int) = l.getD i 0 := by unfold rd; rw [Int.toNat_natCast]
theorem rd_byt {l : List Int} (h : Byt l) (i : Int) : 0 ≤ rd l i ∧ rd l i < 256 := by
 unfold rd
 rw [List.getD_eq_getElem?_getD]
 cases he : l[i.toNat]? with
 | none => simp
 | some x => exact h x (List.mem_of_getElem? he)
/-! ### the program's -/
theorem seal_is {l : List Int} (h : l.length < 140737488355000) : crc_Seal.f l = some (l ++ tl (sumOf l)) := if_pos h
theorem open_is {l : List Int} (h : l.length < 140737488355000) : crc_Open.f l = some (if l.length < 4 then ([], 2) else if l.drop (l.length - 4) = tl (sumOf (l.take (l.length - 4))) then (l.take (l.length - 4), 0) else ([], 3)) := if_pos h
theorem getD_byt {l : List Int} (h : Byt l) (i : Nat) : 0 ≤ l.getD i 0 ∧ l.getD i 0 < 256 := by rw [← rd_nat]; exact rd_byt h _
theorem ref_l1 (x0 : List Int) (x4 : Int) (d : Nat) : ∀ (k : Nat) (s : Nat) (i : Nat), s < 4294967296 → i + d = 8 → precentorref01_Sum.l1 (k + d + 1) x0 (s : Int) x4 (i : Int) = precentorref01_Sum.l0 k x0 (bn d s : Int) (wrap64 (x4 + 1)) := by
 induction d with
 | zero =>
  intro k s i _ hi
  simp only [precentorref01_Sum.l1]
  rw [if_neg (by omega)]
  rfl
 | succ d ih =>
  intro k s i hs hi
  have hK : ∃ K, K = k + d + 1 := ⟨_, rfl⟩
  obtain ⟨K, hK⟩ := hK
  rw [show k + (d + 1) + 1 = K + 1 by omega]
  simp only [precentorref01_Sum.l1]
  rw [if_pos (by omega), hK]
  have hw : wrap64 ((i : Int) + 1) = ((i + 1 : Nat) : Int) := by rw [wrap_id (by omega) (by omega)]; rfl
  have hd : (Int.tdiv (s : Int) 2) % 4294967296 = ((s / 2 : Nat) : Int) := by
   rw [Int.tdiv_eq_ediv_of_nonneg (by omega)]; omega
  rw [hw, hd]
  have hm : Int.tmod (s : Int) 2 = ((s % 2 : Nat) : Int) := by
   rw [Int.tmod_eq_emod_of_nonneg (by omega)]; rfl
  rw [hm]
  have hb : bn (d + 1) s = bn d (b1 s) := rfl
  by_cases h : s % 2 = 1
  ·
   rw [if_pos (by omega), show (3988292384 : Int) = ((3988292384 : Nat) : Int) from rfl, xor_u32 _ _ (by omega) (by decide), ih k _ (i + 1) (Nat.xor_lt_two_pow (n := 32) (by omega) (by omega)) (by omega), hb]
   unfold b1
   rw [if_pos h]
  ·
   rw [if_neg (by omega), ih k _ (i + 1) (by omega) (by omega), hb]
   unfold b1
   rw [if_neg h]
theorem ref_l0 (l : List Int) (hb : Byt l) (hl : l.length ≤ 9223372036854775806) (d : Nat) : ∀ (j s i : Nat), s < 4294967296 → i + d = l.length → precentorref01_Sum.l0 (j + 10 * d + 1) l (s : Int) (i : Int) = some (4294967295 - ((S s (nt (l.drop i)) : Nat) : Int)) := by
 induction d with
 | zero =>
  intro j s i hs hi
  simp only [precentorref01_Sum.l0]
  rw [if_neg (by omega), List.drop_of_length_le (by omega)]
  congr 1
  show _ = 4294967295 - (s : Int)
  omega
 | succ d ih =>
  intro j s i hs hi
  rw [show j + 10 * (d + 1) + 1 = ((j + 10 * d + 1) + 8 + 1) + 1 by omega]
  simp only [precentorref01_Sum.l0]
  rw [if_pos (by omega), if_pos (by omega)]
  have hc := getD_byt hb i
  rw [rd_nat]
  have hlt : i < l.length := by omega
  have hdrop : l.drop i = l.getD i 0 :: l.drop (i + 1) := by
   rw [List.drop_eq_getElem_cons hlt, List.getD_eq_getElem?_getD, List.getElem?_eq_getElem hlt]; rfl
  have hx : Go.bits .xor .u32 (s : Int) (l.getD i 0 % 4294967296) = ((s ^^^ (l.getD i 0).toNat : Nat) : Int) := by
   rw [show l.getD i 0 % 4294967296 = (((l.getD i 0).toNat : Nat) : Int) by omega]
   exact xor_u32 _ _ hs (by omega)
  have h8 : precentorref01_Sum.l1 (j + 10 * d + 1 + 8 + 1) l ((s ^^^ (l.getD i 0).toNat : Nat) : Int) (i : Int) 0 = _ := ref_l1 l i 8 (j + 10 * d + 1) _ 0 (Nat.xor_lt_two_pow (n := 32) hs (by omega)) (by omega)
  rw [hx, h8]
  rw [show wrap64 ((i : Int) + 1) = ((i + 1 : Nat) : Int) by rw [wrap_id (by omega) (by omega)]; rfl]
  rw [ih j _ (i + 1) (bn_lt 8 (Nat.xor_lt_two_pow (n := 32) hs (by omega))) (by omega), hdrop]
  rfl
theorem ref_sum {l : List Int} (hb : Byt l) (hl : l.length ≤ 9223372036854775806) {k : Nat} (hk : 10 * l.length + 1 ≤ k) : precentorref01_Sum.f k l = some (sumOf l) := by
 unfold precentorref01_Sum.f
 obtain ⟨j, rfl⟩ : ∃ j, k = j + 10 * l.length + 1 := ⟨k - 10 * l.length - 1, by omega⟩
 have := ref_l0 l hb hl l.length j 4294967295 0 (by decide) (by omega)
 rw [List.drop_zero] at this
 have h2 := raw_lt hb
 rw [show (4294967295 : Int) = ((4294967295 : Nat) : Int) from rfl, show (0 : Int) = ((0 : Nat) : Int) from rfl, this, sumOf_nat hb, ones_sub _ h2]
 congr 1
 show (4294967295 : Int) - ((raw l : Nat) : Int) = _
 omega
theorem ref_four {s : Int} (h0 : 0 ≤ s) (h1 : s < 4294967296) : precentorref01_four.f s = some (tl s) := by
 unfold precentorref01_four.f tl
 rw [Int.tmod_eq_emod_of_nonneg h0, Int.tdiv_eq_ediv_of_nonneg h0, Int.tdiv_eq_ediv_of_nonneg h0, Int.tdiv_eq_ediv_of_nonneg h0]
 congr 1
 simp only [List.cons.injEq, and_true]
 refine ⟨?_, ?_, ?_, ?_⟩ <;> omega
theorem ref_seal {l : List Int} (hb : Byt l) (hl : l.length < 140737488355000) {k : Nat} (hk : 10 * l.length + 1 ≤ k) : precentorref01_Seal.f k l = some (l ++ tl (sumOf l)) := by
 unfold precentorref01_Seal.f
 have hs := sumOf_range hb
 simp only [Option.bind_some, List.nil_append, List.length_nil, Nat.zero_add]
 rw [if_pos (by omega), ref_sum hb (by omega) hk]
 simp only [Option.bind_some]
 rw [ref_four hs.1 hs.2]
 simp only [Option.bind_some]
 rw [if_pos (by rw [tl_length]; omega)]
end Go.Proofs.YtieolhhokepkjaaDoor.CrcPlain
namespace Go.Proofs.YtieolhhokepkjaaDoor.Print
open Go.RowKit Go.Proofs.YtieolhhokepkjaaDoorW.PrintWords Go.Proofs.YtieolhhokepkjaaDoorW.PrintLast Go.Proofs.YtieolhhokepkjaaDoorW.PrintMore
attribute [local go_sem] max2_int min2_int max_two min_two max_three min_three max_four min_four
set_option linter.unusedVariables false
set_option linter.unusedSimpArgs false
/-! ### precentorref01_Open: function 25 -/
def precentorref01_Open.f (k : Nat) (l0 : List Int) : Option (List Int × Int) := if (l0.length : Int) < 4 then (some (([] : List Int), 2)) else (if 0 ≤ (wrap64 ((l0.length : Int) - 4)) then (if (wrap64 ((l0.length : Int) - 4)) ≤ (l0.length : Int) then ((precentorref01_Sum.f k (l0.take ((wrap64 ((l0.length : Int) - 4)) : Int).toNat)).bind fun t232 => ((precentorref01_four.f t232).bind fun t233 => (if (strOfNums t233).toList = (strOfNums (l0.drop ((wrap64 ((l0.length : Int) - 4)) : Int).toNat)).toList then ((some (([] : List Int) : List Int)).bind fun y237 => (if y237.length + (l0.take ((wrap64 ((l0.length : Int) - 4)) : Int).toNat).length < 140737488355328 then (some ((y237 ++ (l0.take ((wrap64 ((l0.length : Int) - 4)) : Int).toNat)), 0)) else (none))) else (some (([] : List Int), 3))))) else (none)) else (none))
theorem precentorref01_Open.mono : ∀ a0 k, LeO (precentorref01_Open.f k a0) (precentorref01_Open.f (k + 1) a0) := by
 intro a0 k
 unfold precentorref01_Open.f
 repeat' first
   | (with_reducible exact precentorref01_Sum.mono _ _)
   | (with_reducible exact LeO.refl _)
   | (with_reducible exact LeO.none _)
   | (with_reducible refine LeO.ite ?_ ?_)
   | (with_reducible refine LeO.bind ?_ (fun _ => ?_))
   | exact precentorref01_Sum.mono _ _
   | exact LeO.none _
   | refine LeO.ite ?_ ?_
   | refine LeO.bind ?_ (fun _ => ?_)
def precentorref01_Open.T4 : Bool × List (List Nat × List Nat) := (true, [([], []), ([], []), ([0, 1], [0, 1]), ([2], [2]), ([3, 3], [3]), ([4], [4]), ([], []), ([], []), ([6, 7], [6, 7]), ([8], [8]), ([5, 9], [5, 9])])
def precentorref01_Open.B4 : List Nat := [0, 0, 3, 7, 15, 31, 0, 0, 192, 448, 1023]
theorem precentorref01_Open.tab4 : rtab .any (opsOf Tryd.f25 4) = precentorref01_Open.T4 := by kernel_rfl
theorem precentorref01_Open.bits4 : waitsOk precentorref01_Open.T4.2 precentorref01_Open.B4 = true := by kernel_rfl
set_option maxHeartbeats 8000000 in
set_option maxRecDepth 100000 in
theorem precentorref01_Open.calls (k : Nat) (A0 : Option Addr) (c0 : Nat) (l0 : List Int) (r1 : List Int) (r2 : Int) (w : World) (hr0 : Kd.C (Kd.int .u8) w A0 l0.length l0) (hc0 : l0.length ≤ c0) (h : precentorref01_Open.f k l0 = some (r1, r2)) :
  Calls Tryd.prog 25 #[.slice A0 l0.length c0] w fun e w' => ∃ v0_ : Value, e = .returned (.tuple #[v0_, .int .i64 r2]) ∧ Kd.R (Kd.int .u8) 5 w' w.heap.size (fun _ => True) v0_ r1 ∧ Below w.heap.size w w' := by
 have HR0 := ak hr0
 have HC0 := ak hc0
 clear hr0 hc0
 have HB := ak (Below.refl w.heap.size w)
 have H : (if (l0.length : Int) < 4 then (some (([] : List Int), 2)) else (if 0 ≤ (wrap64 ((l0.length : Int) - 4)) then (if (wrap64 ((l0.length : Int) - 4)) ≤ (l0.length : Int) then ((precentorref01_Sum.f k (l0.take ((wrap64 ((l0.length : Int) - 4)) : Int).toNat)).bind fun t232 => ((precentorref01_four.f t232).bind fun t233 => (if (strOfNums t233).toList = (strOfNums (l0.drop ((wrap64 ((l0.length : Int) - 4)) : Int).toNat)).toList then ((some (([] : List Int) : List Int)).bind fun y237 => (if y237.length + (l0.take ((wrap64 ((l0.length : Int) - 4)) : Int).toNat).length < 140737488355328 then (some ((y237 ++ (l0.take ((wrap64 ((l0.length : Int) - 4)) : Int).toNat)), 0)) else (none))) else (some (([] : List Int), 3))))) else (none)) else (none))) = some (r1, r2) := h
 clear h
 by_cases c2 : (l0.length : Int) < 4
 ·
  rw [if_pos c2] at H
  have c2b0 : decide ((l0.length : Int) < 4) = true := decide_eq_true c2
  have c2b1 : decide (l0.length < 4) = true := decide_eq_true (by omega)
  clear c2
  simp only [Option.some.injEq, Prod.mk.injEq] at H
  obtain ⟨rfl, rfl⟩ := H
  go_enter Tryd.func25, Tryd.ntmps25
  go_wp2
  go_ret2
  exact ⟨_, by first | rfl | (simp [errW_none, errW_some] <;> rfl) | (simp [*, errW_none, errW_some] <;> rfl), by first | exact Kd.R_nil _ _ _ _ _ | exact Kd.N_nil _ _ _ _ _ | exact Kd.V_nil _ _ _ _ _ | exact Kd.Q_nil _ _ _ _ _ | exact Kd.S_nil _ _ _ _ _, by repeat (first | (with_reducible first | exact HB.out | apply below_alloc | apply pw_below_drewN | apply below_drew1) | exact HB.out)⟩
 ·
  rw [if_neg c2] at H
  have c2b0 : decide ((l0.length : Int) < 4) = false := decide_eq_false c2
  have c2b1 : decide (l0.length < 4) = false := decide_eq_false (by omega)
  clear c2
  obtain ⟨ji3, hji3⟩ : ∃ j_ : Int, (wrap64 ((l0.length : Int) - 4)) = j_ := ⟨_, rfl⟩
  replace H : (if 0 ≤ (ji3) then (if (ji3) ≤ (l0.length : Int) then ((precentorref01_Sum.f k (l0.take ((ji3) : Int).toNat)).bind fun t232 => ((precentorref01_four.f t232).bind fun t233 => (if (strOfNums t233).toList = (strOfNums (l0.drop ((ji3) : Int).toNat)).toList then ((some (([] : List Int) : List Int)).bind fun y237 => (if y237.length + (l0.take ((ji3) : Int).toNat).length < 140737488355328 then (some ((y237 ++ (l0.take ((ji3) : Int).toNat)), 0)) else (none))) else (some (([] : List Int), 3))))) else (none)) else (none)) = some (r1, r2) := by first | (rw [hji3] at H; exact H) | (simp only [hji3] at H ⊢; exact H)
  have hji3w : (IntKind.i64.wrap ((l0.length : Int) - 4)) = ji3 := (i64_w _).trans hji3
  by_cases c4 : 0 ≤ (ji3)
  ·
   rw [if_pos c4] at H
   have c4b0 := eq_true c4
   have c4b1 : decide (0 ≤ (ji3)) = true := decide_eq_true c4
   clear c4
   by_cases c5 : (ji3) ≤ (l0.length : Int)
   ·
    rw [if_pos c5] at H
    have c5b0 := eq_true c5
    have c5b1 : decide ((ji3) ≤ (l0.length : Int)) = true := decide_eq_true c5
    clear c5
    replace H := Option.bind_eq_some_iff.mp H
    obtain ⟨t232, A60, H⟩ := H
    replace H : ((precentorref01_four.f t232).bind fun t233 => (if (strOfNums t233).toList = (strOfNums (l0.drop ((ji3) : Int).toNat)).toList then ((some (([] : List Int) : List Int)).bind fun y237 => (if y237.length + (l0.take ((ji3) : Int).toNat).length < 140737488355328 then (some ((y237 ++ (l0.take ((ji3) : Int).toNat)), 0)) else (none))) else (some (([] : List Int), 3)))) = some (r1, r2) := H
    have A6 := ak A60
    clear A60
    replace H := Option.bind_eq_some_iff.mp H
    obtain ⟨t233, A70, H⟩ := H
    replace H : (if (strOfNums t233).toList = (strOfNums (l0.drop ((ji3) : Int).toNat)).toList then ((some (([] : List Int) : List Int)).bind fun y237 => (if y237.length + (l0.take ((ji3) : Int).toNat).length < 140737488355328 then (some ((y237 ++ (l0.take ((ji3) : Int).toNat)), 0)) else (none))) else (some (([] : List Int), 3))) = some (r1, r2) := H
    have A7 := ak A70
    clear A70
    have c8b0 := eq_true (of_decide_eq_true (by first | (with_reducible assumption) | assumption) : 0 ≤ (ji3))
    have c9b0 := eq_true (of_decide_eq_true (by first | (with_reducible assumption) | assumption) : (ji3) ≤ (l0.length : Int))
    by_cases c10 : (strOfNums t233).toList = (strOfNums (l0.drop ((ji3) : Int).toNat)).toList
    ·
     rw [if_pos c10] at H
     have c10b0 : ((strOfNums t233).toList == (strOfNums (l0.drop ((ji3) : Int).toNat)).toList) = true := beq_iff_eq.mpr c10
     have c10b1 : ((strOfNums t233).toList != (strOfNums (l0.drop ((ji3) : Int).toNat)).toList) = false := bne_eq_false_iff_eq.mpr c10
     clear c10
     obtain ⟨y237, hy237⟩ : ∃ y_ : List Int, y_ = (([] : List Int)) := ⟨_, rfl⟩
     replace H : (if y237.length + (l0.take ((ji3) : Int).toNat).length < 140737488355328 then (some ((y237 ++ (l0.take ((ji3) : Int).toNat)), 0)) else (none)) = some (r1, r2) := by first | (rw [hy237]; with_reducible exact H) | (have H2_ := (Option.bind_some _ _).symm.trans H; rw [hy237]; with_reducible exact H2_) | (have H2_ := (Option.bind_some _ _).symm.trans H; with_reducible exact H2_) | with_reducible exact H | (rw [hy237]; exact H) | exact H
     have Ny237 := ak hy237
     clear hy237
     have c11b0 := eq_true (of_decide_eq_true (by first | (with_reducible assumption) | assumption) : 0 ≤ (ji3))
     have c12b0 := eq_true (of_decide_eq_true (by first | (with_reducible assumption) | assumption) : (ji3) ≤ (l0.length : Int))
     by_cases c13 : y237.length + (l0.take ((ji3) : Int).toNat).length < 140737488355328
     ·
      rw [if_pos c13] at H
      have LMc13 := ak c13
      clear c13
      obtain ⟨y241, hy241⟩ : ∃ y_ : List Int, y_ = (y237 ++ (l0.take ((ji3) : Int).toNat)) := ⟨_, rfl⟩
      replace H : (some (y241, 0)) = some (r1, r2) := by first | (rw [hy241]; with_reducible exact H) | (have H2_ := (Option.bind_some _ _).symm.trans H; rw [hy241]; with_reducible exact H2_) | (have H2_ := (Option.bind_some _ _).symm.trans H; with_reducible exact H2_) | with_reducible exact H | (rw [hy241]; exact H) | exact H
      have Ny241 := ak hy241
      clear hy241
      simp only [Option.some.injEq, Prod.mk.injEq] at H
      obtain ⟨rfl, rfl⟩ := H
      go_enter Tryd.func25, Tryd.ntmps25
      try go_wp2
      have n0_ := ak (below_drew1 HB.out)
      clear HB
      have HB := n0_
      clear n0_
      obtain ⟨i015, hi015, _, hsz15, _⟩ := info_parts info5
      obtain ⟨hcut15, hA15, hC15⟩ := print_take_of (P := Tryd.prog) (Value.int .u8) 0 23 5 .i64 Tryd.underlying23 hi015 hsz15 A0 c0 l0 (ji3) (of_decide_eq_true (by first | (with_reducible assumption) | assumption)) (of_decide_eq_true (by first | (with_reducible assumption) | assumption)) HC0.out
      have HR231 := ak (Kd.C_of_reads (h1 := fun _ => rfl) (hA15 _ (Kd.reads_of_C HR0.out)))
      have HC231 := ak hC15
      clear hA15 hC15 hi015 hsz15
      obtain ⟨i016, hi016, _, hsz16, _⟩ := info_parts info5
      obtain ⟨A16, hcut16, hA16, hC16⟩ := print_drop_of (P := Tryd.prog) (Value.int .u8) 0 23 5 .i64 Tryd.underlying23 hi016 hsz16 A0 c0 l0 (ji3) (of_decide_eq_true (by first | (with_reducible assumption) | assumption)) (of_decide_eq_true (by first | (with_reducible assumption) | assumption)) HC0.out
      have HR236 := ak (Kd.C_of_reads (h1 := fun _ => rfl) (hA16 _ (Kd.reads_of_C HR0.out)))
      have HC236 := ak hC16
      clear hA16 hC16 hi016 hsz16
      refine start_ (n := 11) (S := fun w' => (convert 23 9 (.slice A16 (l0.drop ((ji3) : Int).toNat).length (c0 - (ji3).toNat))).run Tryd.prog w' = .ok (.string (strOfNums (l0.drop ((ji3) : Int).toNat))) w') (ds := []) #[false, false, false, false, false, false, false, false, false, false, false] (by kernel_rfl) rfl rfl ((Kd.C_string (P := Tryd.prog) (A := A16) (c := (c0 - (ji3).toNat)) Tryd.underlying23 Tryd.underlying5 Tryd.underlying9 (by repeat (first | exact (Kd.C_below (HR236.out) (HB.out)) | (with_reducible refine Kd.C_alloc ?_ _) | (with_reducible refine Kd.C_drewN ?_ _) | (with_reducible refine Kd.C_drew ?_))))) (fun hHeld => ?_); refine with_tabW precentorref01_Open.tab4 precentorref01_Open.bits4 (fun HT_ HW_ => ?_)
      generalize w.drew = w14 at HB HR231 HR236 hHeld ⊢
      refine pure_ (i := 0) (N := some 11) (v := ?_) (a' := ?_) #[true, false, false, false, false, false, false, false, false, false, false] rfl rfl (any_of HT_.out (by kernel_rfl)) (fun _ _ _ h => h) (Or.inl ⟨by rfl, ?_⟩) ?_ ?_
      rotate_left
      ·
       intro w'
       go_simp
       with_reducible rfl
      rotate_left
      ·
       simp only [Act.put, sq1, sq2, sq3, i64_w, i32_w]
       rfl
      refine pure_ (i := 1) (N := some 12) (v := ?_) (a' := ?_) #[true, true, false, false, false, false, false, false, false, false, false] rfl rfl (any_of HT_.out (by kernel_rfl)) (fun _ _ _ h => h) (Or.inl ⟨by rfl, ?_⟩) ?_ ?_
      rotate_left
      ·
       intro w'
       go_simp
       with_reducible rfl
      rotate_left
      ·
       simp only [Act.put, sq1, sq2, sq3, i64_w, i32_w]
       rfl
      refine pure_ (i := 2) (N := some 13) (v := ?_) (a' := ?_) #[true, true, true, false, false, false, false, false, false, false, false] rfl rfl (any_of HT_.out (by kernel_rfl)) (fun _ _ _ h => h) (Or.inl ⟨by rfl, ?_⟩) ?_ ?_
      rotate_left
      ·
       intro w'
       go_simp
       with_reducible rfl
      rotate_left
      ·
       simp only [Act.put, sq1, sq2, sq3, i64_w, i32_w]
       rfl
      refine pure_ (i := 6) (N := some 17) (v := ?_) (a' := ?_) #[true, true, true, false, false, false, true, false, false, false, false] rfl rfl (any_of HT_.out (by kernel_rfl)) (fun _ _ _ h => h) (Or.inl ⟨by rfl, ?_⟩) ?_ ?_
      rotate_left
      ·
       intro w'
       go_simp
       with_reducible rfl
      rotate_left
      ·
       simp only [Act.put, sq1, sq2, sq3, i64_w, i32_w]
       rfl
      refine pure_ (i := 7) (N := some 18) (v := ?_) (a' := ?_) #[true, true, true, false, false, false, true, true, false, false, false] rfl rfl (any_of HT_.out (by kernel_rfl)) (fun _ _ _ h => h) (Or.inl ⟨by rfl, ?_⟩) ?_ ?_
      rotate_left
      ·
       intro w'
       go_simp
       with_reducible rfl
      rotate_left
      ·
       simp only [Act.put, sq1, sq2, sq3, i64_w, i32_w]
       rfl
      refine pure_ (i := 8) (N := some 19) (v := ?_) (a' := ?_) #[true, true, true, false, false, false, true, true, true, false, false] rfl rfl (any_of HT_.out (by kernel_rfl)) (fun _ _ _ h => h) (Or.inl ⟨by rfl, ?_⟩) ?_ ?_
      rotate_left
      ·
       intro w'
       go_simp
       with_reducible rfl
      rotate_left
      ·
       simp only [Act.put, sq1, sq2, sq3, i64_w, i32_w]
       rfl
      refine take_ (i := 9) (N := some 20) (v := ?_) (a' := ?_) #[true, true, true, false, false, false, true, true, true, true, false] rfl rfl (take_ofW HT_.out HW_.out (by kernel_rfl)) (fun _ _ _ h => h) (Or.inl ⟨by rfl, ?_⟩) hHeld ?_ ?_
      rotate_left
      ·
       intro w' s0
       try rw [List.length_drop] at s0
       go_simp
       with_reducible rfl
      rotate_left
      ·
       simp only [Act.put, sq1, sq2, sq3, i64_w, i32_w]
       rfl
      refine one_ (i := 3) (N := some 14) #[true, true, true, true, false, false, true, true, true, true, false] rfl rfl (one_of HT_.out (by kernel_rfl)) (by decide) (fun K hK => ?_)
      refine goes_ Tryd.func45 (by kernel_rfl) rfl #[.slice A0 (l0.take ((ji3) : Int).toNat).length c0] (by rfl) rfl rfl (by (try simp only [List.map_toArray, List.map_cons, List.map_nil]); first | done | (rw [show (l0.take ((ji3) : Int).toNat).length = (ji3).toNat from (by rw [List.length_take]; have h_ : ((ji3) : Int) ≤ (l0.length : Int) := of_decide_eq_true (by first | (with_reducible assumption) | assumption); omega)] <;> rfl) | (simp only [hji3]; rfl) | rfl | (simp only [List.length_drop, List.length_take]; rfl)) ?_
      with_reducible refine (precentorref01_Sum.calls k _ _ (l0.take ((ji3) : Int).toNat) t232 _ ?side1 ?side2 A6.out).mono ?_
      (case side1 => repeat (first | exact (Kd.C_below HR231.out HB.out) | (with_reducible refine Kd.C_alloc ?_ _) | (with_reducible refine Kd.C_drewN ?_ _) | (with_reducible refine Kd.C_drew ?_)))
      (case side2 => exact HC231.out)
      rintro e w' ⟨rfl, ⟨nd, rfl⟩⟩
      refine ⟨_, rfl, ?_⟩
      refine hK.out _ _ ((Kd.C_string (P := Tryd.prog) (A := A16) (c := (c0 - (ji3).toNat)) Tryd.underlying23 Tryd.underlying5 Tryd.underlying9 (by repeat (first | exact (Kd.C_below (HR236.out) (HB.out)) | (with_reducible refine Kd.C_alloc ?_ _) | (with_reducible refine Kd.C_drewN ?_ _) | (with_reducible refine Kd.C_drew ?_))))) (fun hHeld => ?_)
      clear hK K
      refine norm_ (a' := ?_) ?_ ?_
      rotate_left
      ·
       show Act.put _ (some 14) _ = _
       simp only [Act.put, sq1, sq2, sq3, i64_w, i32_w]
       rfl
      refine one_ (i := 4) (N := some 15) #[true, true, true, true, true, false, true, true, true, true, false] rfl rfl (one_of HT_.out (by kernel_rfl)) (by decide) (fun K hK => ?_)
      refine goes_ Tryd.func44 (by kernel_rfl) rfl #[.int .u32 t232] (by rfl) rfl rfl (by (try simp only [List.map_toArray, List.map_cons, List.map_nil]); first | done | rfl | (simp only [List.length_drop, List.length_take]; rfl)) ?_
      with_reducible refine (precentorref01_four.calls t232 t233 _ A7.out).mono ?_
      rintro e w17 ⟨v234, rfl, ho0, hb⟩
      refine ⟨_, rfl, ?_⟩
      have n0_ := ak (Kd.R_lower ho0 (below_size (by repeat (first | (with_reducible first | exact HB.out | apply below_alloc | apply pw_below_drewN | apply below_drew1) | exact HB.out))))
      have n1_ := ak (below_step (by repeat (first | (with_reducible first | exact HB.out | apply below_alloc | apply pw_below_drewN | apply below_drew1) | exact HB.out)) hb)
      clear HB
      have HO235 := n0_
      have HB := n1_
      clear n0_ n1_
      (try clear hb)
      (try clear hb2)
      (try clear hk)
      (try clear hi)
      (try clear ho0)
      refine hK.out _ _ ((Kd.C_string (P := Tryd.prog) (A := A16) (c := (c0 - (ji3).toNat)) Tryd.underlying23 Tryd.underlying5 Tryd.underlying9 (by repeat (first | exact (Kd.C_below (HR236.out) (HB.out)) | (with_reducible refine Kd.C_alloc ?_ _) | (with_reducible refine Kd.C_drewN ?_ _) | (with_reducible refine Kd.C_drew ?_))))) (fun hHeld => ?_)
      clear hK K
      refine norm_ (a' := ?_) ?_ ?_
      rotate_left
      ·
       show Act.put _ (some 15) _ = _
       simp only [Act.put, sq1, sq2, sq3, i64_w, i32_w]
       rfl
      refine one_ (i := 5) (N := some 16) #[true, true, true, true, true, true, true, true, true, true, false] rfl rfl (one_of HT_.out (by kernel_rfl)) (by decide) (fun K hK => ?_)
      have hcv18 := (by first | exact own_string (P := Tryd.prog) Tryd.underlying23 Tryd.underlying5 Tryd.underlying9 (Kd.own_of_R HO235.out) | exact V_string (P := Tryd.prog) Tryd.underlying23 Tryd.underlying5 Tryd.underlying9 HO235.out); have hcv18d := (by first | exact own_string_d (P := Tryd.prog) Tryd.underlying23 Tryd.underlying5 Tryd.underlying9 HO235.out | exact V_string_d (P := Tryd.prog) Tryd.underlying23 Tryd.underlying5 Tryd.underlying9 HO235.out)
      refine value_ (w1 := ?_) (v := ?_) (by rfl) rfl ?_ ?_
      rotate_left 2
      ·
       go_simp
       constructor
       ·
        rfl
       ·
        rfl
      clear hcv18
      refine hK.out _ _ ((Kd.C_string (P := Tryd.prog) (A := A16) (c := (c0 - (ji3).toNat)) Tryd.underlying23 Tryd.underlying5 Tryd.underlying9 (by repeat (first | exact (Kd.C_below (HR236.out) (HB.out)) | (with_reducible refine Kd.C_alloc ?_ _) | (with_reducible refine Kd.C_drewN ?_ _) | (with_reducible refine Kd.C_drew ?_))))) (fun hHeld => ?_)
      clear hK K
      refine norm_ (a' := ?_) ?_ ?_
      rotate_left
      ·
       show Act.put _ (some 16) _ = _
       simp only [Act.put, sq1, sq2, sq3, i64_w, i32_w]
       rfl
      refine pure_ (i := 10) (N := some 21) (v := ?_) (a' := ?_) #[true, true, true, true, true, true, true, true, true, true, true] rfl rfl (any_of HT_.out (by kernel_rfl)) (fun _ _ _ h => h) (Or.inl ⟨by rfl, ?_⟩) ?_ ?_
      rotate_left
      ·
       intro w'
       go_simp
       with_reducible rfl
      rotate_left
      ·
       simp only [Act.put, sq1, sq2, sq3, i64_w, i32_w]
       rfl
      refine done_ (done_of HT_.out (by kernel_rfl)) ?_
      try go_wp2_with (first | ((with_reducible refine gate_dst (N := 22) rfl ?_); refine Kd.R_lit (Kd.int .u8) _ 5 ?hg (N := 22) ?hd (xs := ([] : List Int)) (inner := []) (ok := fun _ => True) (okp := fun _ => True) ?hr ?hp (fun _ hk => hk) trivial (Below.refl _ _) (Nat.le_refl _) (by simp) ?_; (case hd => rfl); (case hg => rfl); (case hr => first | (go_simp; done) | (go_simp; rfl)); (case hp => exact (Reps.none _ _)); intro v238 w19 ho20 hb hg_ hnew_; clear hg_ hnew_; (first | rw [← Ny237.out] at ho20 | (simp only [Int.reduceToNat] at ho20; rw [← Ny237.out] at ho20)); have n0_ := ak (Kd.R_elder' (by (with_reducible repeat (first | apply Kd.R_alloc | apply Kd.R_drewN | apply Kd.R_drew)); exact HO235.out) (Kd.R_base ho20) hb); have n1_ := ak (Kd.R_lower (Kd.R_new' ho20 (Kd.R_lt (by (with_reducible repeat (first | apply Kd.R_alloc | apply Kd.R_drewN | apply Kd.R_drew)); exact HO235.out))) (below_size (by repeat (first | (with_reducible first | exact HB.out | apply below_alloc | apply pw_below_drewN | apply below_drew1) | exact HB.out)))); have n2_ := ak (below_step (by repeat (first | (with_reducible first | exact HB.out | apply below_alloc | apply pw_below_drewN | apply below_drew1) | exact HB.out)) hb); clear HO235; clear HB; have HO235 := n0_; have HO239 := n1_; have HB := n2_; clear n0_ n1_ n2_; clear hb ho20; obtain ⟨i021, hi021, _, hsz21, _⟩ := info_parts info5; obtain ⟨hcut21, hA21, hC21⟩ := print_take_of (P := Tryd.prog) (Value.int .u8) 0 23 5 .i64 Tryd.underlying23 hi021 hsz21 A0 c0 l0 (ji3) (of_decide_eq_true (by first | (with_reducible assumption) | assumption)) (of_decide_eq_true (by first | (with_reducible assumption) | assumption)) HC0.out; have HR240 := ak (Kd.C_of_reads (h1 := fun _ => rfl) (hA21 _ (Kd.reads_of_C HR0.out))); have HC240 := ak hC21; clear hA21 hC21 hi021 hsz21) | ((with_reducible refine gate_builtin (b := .append) (xs := #[.tmp 22, .tmp 25]) rfl ?_); at_builtin; refine Kd.R_append_rows (Kd.int .u8) (w0 := w) w.heap.size rfl (.tmp 22) (.tmp 25) 23 5 (.int .u8 0) 1 rfl Tryd.underlying23 info5 rfl (by decide) (by omega) v238 y237 (l0.take ((ji3) : Int).toNat) _ _ _ (fun k_ => some k_ ≠ (v234 : Value).ownBlock) (fun _ => False) rfl rfl ?aO ?aR (fun _ _ h => h) (fun _ h => h.elim) ?aF ?aB ?aS ?aL ?_; (case aR => first | (exact Eq.mp (congrArg (fun n_ => Kd.C _ _ _ n_ _) (show (l0.take ((ji3) : Int).toNat).length = (ji3).toNat from (by rw [List.length_take]; have h_ : ((ji3) : Int) ≤ (l0.length : Int) := of_decide_eq_true (by first | (with_reducible assumption) | assumption); omega))) (by repeat (first | exact (Kd.C_below HR240.out HB.out) | (with_reducible refine Kd.C_alloc ?_ _) | (with_reducible refine Kd.C_drewN ?_ _) | (with_reducible refine Kd.C_drew ?_)); done)) | (rw [← show (l0.take ((ji3) : Int).toNat).length = (ji3).toNat from (by rw [List.length_take]; have h_ : ((ji3) : Int) ≤ (l0.length : Int) := of_decide_eq_true (by first | (with_reducible assumption) | assumption); omega)]; repeat (first | exact (Kd.C_below HR240.out HB.out) | (with_reducible refine Kd.C_alloc ?_ _) | (with_reducible refine Kd.C_drewN ?_ _) | (with_reducible refine Kd.C_drew ?_))) | (repeat (first | exact (Kd.C_below HR240.out HB.out) | (with_reducible refine Kd.C_alloc ?_ _) | (with_reducible refine Kd.C_drewN ?_ _) | (with_reducible refine Kd.C_drew ?_)))); (case aB => exact (by repeat (first | (with_reducible first | exact HB.out | apply below_alloc | apply pw_below_drewN | apply below_drew1) | exact HB.out))); (case aF => exact (fun k_ hk => Kd.fresh' (Kd.R_lt (by (with_reducible repeat (first | apply Kd.R_alloc | apply Kd.R_drewN | apply Kd.R_drew)); exact HO235.out)) k_ hk)); (case aO => exact (by (with_reducible repeat (first | apply Kd.R_alloc | apply Kd.R_drewN | apply Kd.R_drew)); exact Kd.R_mono HO239.out (fun _ hk => hk.2))); (case aS => exact (below_size (by repeat (first | (with_reducible first | exact HB.out | apply below_alloc | apply pw_below_drewN | apply below_drew1) | exact HB.out)))); (case aL => have := LMc13.out; have hlx_ := (show (l0.take ((ji3) : Int).toNat).length = (ji3).toNat from (by rw [List.length_take]; have h_ : ((ji3) : Int) ≤ (l0.length : Int) := of_decide_eq_true (by first | (with_reducible assumption) | assumption); omega)); omega); intro v242 w22 ho hb hg hat; rw [← Ny241.out] at ho; have n0_ := ak (Kd.R_after (ok := (fun _ => True)) (by (with_reducible repeat (first | apply Kd.R_alloc | apply Kd.R_drewN | apply Kd.R_drew)); exact HO235.out) hg hat); have n1_ := ak (hb); have n2_ := ak (ho); clear HO235; clear HB; clear HO239; have HO235 := n0_; have HB := n1_; have HO243 := n2_; clear n0_ n1_ n2_; clear ho hb hg hat))
      go_ret2
      exact ⟨_, by first | rfl | (simp [errW_none, errW_some] <;> rfl) | (simp only [← hji3]; first | rfl | (simp [errW_none, errW_some] <;> rfl)) | (simp [*, errW_none, errW_some] <;> rfl), by (with_reducible repeat (first | apply Kd.R_alloc | apply Kd.R_drewN | apply Kd.R_drew)); exact Kd.R_mono HO243.out (fun _ hk => trivial), by repeat (first | (with_reducible first | exact HB.out | apply below_alloc | apply pw_below_drewN | apply below_drew1) | exact HB.out)⟩
     ·
      rw [if_neg c13] at H
      exact absurd H (by simp)
    ·
     rw [if_neg c10] at H
     have c10b0 : ((strOfNums t233).toList == (strOfNums (l0.drop ((ji3) : Int).toNat)).toList) = false := beq_eq_false_iff_ne.mpr c10
     have c10b1 : ((strOfNums t233).toList != (strOfNums (l0.drop ((ji3) : Int).toNat)).toList) = true := bne_iff_ne.mpr c10
     simp only [Option.some.injEq, Prod.mk.injEq] at H
     obtain ⟨rfl, rfl⟩ := H
     go_enter Tryd.func25, Tryd.ntmps25
     try go_wp2
     have n0_ := ak (below_drew1 HB.out)
     clear HB
     have HB := n0_
     clear n0_
     obtain ⟨i024, hi024, _, hsz24, _⟩ := info_parts info5
     obtain ⟨hcut24, hA24, hC24⟩ := print_take_of (P := Tryd.prog) (Value.int .u8) 0 23 5 .i64 Tryd.underlying23 hi024 hsz24 A0 c0 l0 (ji3) (of_decide_eq_true (by first | (with_reducible assumption) | assumption)) (of_decide_eq_true (by first | (with_reducible assumption) | assumption)) HC0.out
     have HR231 := ak (Kd.C_of_reads (h1 := fun _ => rfl) (hA24 _ (Kd.reads_of_C HR0.out)))
     have HC231 := ak hC24
     clear hA24 hC24 hi024 hsz24
     obtain ⟨i025, hi025, _, hsz25, _⟩ := info_parts info5
     obtain ⟨A25, hcut25, hA25, hC25⟩ := print_drop_of (P := Tryd.prog) (Value.int .u8) 0 23 5 .i64 Tryd.underlying23 hi025 hsz25 A0 c0 l0 (ji3) (of_decide_eq_true (by first | (with_reducible assumption) | assumption)) (of_decide_eq_true (by first | (with_reducible assumption) | assumption)) HC0.out
     have HR236 := ak (Kd.C_of_reads (h1 := fun _ => rfl) (hA25 _ (Kd.reads_of_C HR0.out)))
     have HC236 := ak hC25
     clear hA25 hC25 hi025 hsz25
     refine start_ (n := 11) (S := fun w' => (convert 23 9 (.slice A25 (l0.drop ((ji3) : Int).toNat).length (c0 - (ji3).toNat))).run Tryd.prog w' = .ok (.string (strOfNums (l0.drop ((ji3) : Int).toNat))) w') (ds := []) #[false, false, false, false, false, false, false, false, false, false, false] (by kernel_rfl) rfl rfl ((Kd.C_string (P := Tryd.prog) (A := A25) (c := (c0 - (ji3).toNat)) Tryd.underlying23 Tryd.underlying5 Tryd.underlying9 (by repeat (first | exact (Kd.C_below (HR236.out) (HB.out)) | (with_reducible refine Kd.C_alloc ?_ _) | (with_reducible refine Kd.C_drewN ?_ _) | (with_reducible refine Kd.C_drew ?_))))) (fun hHeld => ?_); refine with_tabW precentorref01_Open.tab4 precentorref01_Open.bits4 (fun HT_ HW_ => ?_)
     generalize w.drew = w23 at HB HR231 HR236 hHeld ⊢
     refine pure_ (i := 0) (N := some 11) (v := ?_) (a' := ?_) #[true, false, false, false, false, false, false, false, false, false, false] rfl rfl (any_of HT_.out (by kernel_rfl)) (fun _ _ _ h => h) (Or.inl ⟨by rfl, ?_⟩) ?_ ?_
     rotate_left
     ·
      intro w'
      go_simp
      with_reducible rfl
     rotate_left
     ·
      simp only [Act.put, sq1, sq2, sq3, i64_w, i32_w]
      rfl
     refine pure_ (i := 1) (N := some 12) (v := ?_) (a' := ?_) #[true, true, false, false, false, false, false, false, false, false, false] rfl rfl (any_of HT_.out (by kernel_rfl)) (fun _ _ _ h => h) (Or.inl ⟨by rfl, ?_⟩) ?_ ?_
     rotate_left
     ·
      intro w'
      go_simp
      with_reducible rfl
     rotate_left
     ·
      simp only [Act.put, sq1, sq2, sq3, i64_w, i32_w]
      rfl
     refine pure_ (i := 2) (N := some 13) (v := ?_) (a' := ?_) #[true, true, true, false, false, false, false, false, false, false, false] rfl rfl (any_of HT_.out (by kernel_rfl)) (fun _ _ _ h => h) (Or.inl ⟨by rfl, ?_⟩) ?_ ?_
     rotate_left
     ·
      intro w'
      go_simp
      with_reducible rfl
     rotate_left
     ·
      simp only [Act.put, sq1, sq2, sq3, i64_w, i32_w]
      rfl
     refine pure_ (i := 6) (N := some 17) (v := ?_) (a' := ?_) #[true, true, true, false, false, false, true, false, false, false, false] rfl rfl (any_of HT_.out (by kernel_rfl)) (fun _ _ _ h => h) (Or.inl ⟨by rfl, ?_⟩) ?_ ?_
     rotate_left
     ·
      intro w'
      go_simp
      with_reducible rfl
     rotate_left
     ·
      simp only [Act.put, sq1, sq2, sq3, i64_w, i32_w]
      rfl
     refine pure_ (i := 7) (N := some 18) (v := ?_) (a' := ?_) #[true, true, true, false, false, false, true, true, false, false, false] rfl rfl (any_of HT_.out (by kernel_rfl)) (fun _ _ _ h => h) (Or.inl ⟨by rfl, ?_⟩) ?_ ?_
     rotate_left
     ·
      intro w'
      go_simp
      with_reducible rfl
     rotate_left
     ·
      simp only [Act.put, sq1, sq2, sq3, i64_w, i32_w]
      rfl
     refine pure_ (i := 8) (N := some 19) (v := ?_) (a' := ?_) #[true, true, true, false, false, false, true, true, true, false, false] rfl rfl (any_of HT_.out (by kernel_rfl)) (fun _ _ _ h => h) (Or.inl ⟨by rfl, ?_⟩) ?_ ?_
     rotate_left
     ·
      intro w'
      go_simp
      with_reducible rfl
     rotate_left
     ·
      simp only [Act.put, sq1, sq2, sq3, i64_w, i32_w]
      rfl
     refine take_ (i := 9) (N := some 20) (v := ?_) (a' := ?_) #[true, true, true, false, false, false, true, true, true, true, false] rfl rfl (take_ofW HT_.out HW_.out (by kernel_rfl)) (fun _ _ _ h => h) (Or.inl ⟨by rfl, ?_⟩) hHeld ?_ ?_
     rotate_left
     ·
      intro w' s0
      try rw [List.length_drop] at s0
      go_simp
      with_reducible rfl
     rotate_left
     ·
      simp only [Act.put, sq1, sq2, sq3, i64_w, i32_w]
      rfl
     refine one_ (i := 3) (N := some 14) #[true, true, true, true, false, false, true, true, true, true, false] rfl rfl (one_of HT_.out (by kernel_rfl)) (by decide) (fun K hK => ?_)
     refine goes_ Tryd.func45 (by kernel_rfl) rfl #[.slice A0 (l0.take ((ji3) : Int).toNat).length c0] (by rfl) rfl rfl (by (try simp only [List.map_toArray, List.map_cons, List.map_nil]); first | done | (rw [show (l0.take ((ji3) : Int).toNat).length = (ji3).toNat from (by rw [List.length_take]; have h_ : ((ji3) : Int) ≤ (l0.length : Int) := of_decide_eq_true (by first | (with_reducible assumption) | assumption); omega)] <;> rfl) | (simp only [hji3]; rfl) | rfl | (simp only [List.length_drop, List.length_take]; rfl)) ?_
     with_reducible refine (precentorref01_Sum.calls k _ _ (l0.take ((ji3) : Int).toNat) t232 _ ?side1 ?side2 A6.out).mono ?_
     (case side1 => repeat (first | exact (Kd.C_below HR231.out HB.out) | (with_reducible refine Kd.C_alloc ?_ _) | (with_reducible refine Kd.C_drewN ?_ _) | (with_reducible refine Kd.C_drew ?_)))
     (case side2 => exact HC231.out)
     rintro e w' ⟨rfl, ⟨nd, rfl⟩⟩
     refine ⟨_, rfl, ?_⟩
     refine hK.out _ _ ((Kd.C_string (P := Tryd.prog) (A := A25) (c := (c0 - (ji3).toNat)) Tryd.underlying23 Tryd.underlying5 Tryd.underlying9 (by repeat (first | exact (Kd.C_below (HR236.out) (HB.out)) | (with_reducible refine Kd.C_alloc ?_ _) | (with_reducible refine Kd.C_drewN ?_ _) | (with_reducible refine Kd.C_drew ?_))))) (fun hHeld => ?_)
     clear hK K
     refine norm_ (a' := ?_) ?_ ?_
     rotate_left
     ·
      show Act.put _ (some 14) _ = _
      simp only [Act.put, sq1, sq2, sq3, i64_w, i32_w]
      rfl
     refine one_ (i := 4) (N := some 15) #[true, true, true, true, true, false, true, true, true, true, false] rfl rfl (one_of HT_.out (by kernel_rfl)) (by decide) (fun K hK => ?_)
     refine goes_ Tryd.func44 (by kernel_rfl) rfl #[.int .u32 t232] (by rfl) rfl rfl (by (try simp only [List.map_toArray, List.map_cons, List.map_nil]); first | done | rfl | (simp only [List.length_drop, List.length_take]; rfl)) ?_
     with_reducible refine (precentorref01_four.calls t232 t233 _ A7.out).mono ?_
     rintro e w26 ⟨v234, rfl, ho0, hb⟩
     refine ⟨_, rfl, ?_⟩
     have n0_ := ak (Kd.R_lower ho0 (below_size (by repeat (first | (with_reducible first | exact HB.out | apply below_alloc | apply pw_below_drewN | apply below_drew1) | exact HB.out))))
     have n1_ := ak (below_step (by repeat (first | (with_reducible first | exact HB.out | apply below_alloc | apply pw_below_drewN | apply below_drew1) | exact HB.out)) hb)
     clear HB
     have HO235 := n0_
     have HB := n1_
     clear n0_ n1_
     (try clear hb)
     (try clear hb2)
     (try clear hk)
     (try clear hi)
     (try clear ho0)
     refine hK.out _ _ ((Kd.C_string (P := Tryd.prog) (A := A25) (c := (c0 - (ji3).toNat)) Tryd.underlying23 Tryd.underlying5 Tryd.underlying9 (by repeat (first | exact (Kd.C_below (HR236.out) (HB.out)) | (with_reducible refine Kd.C_alloc ?_ _) | (with_reducible refine Kd.C_drewN ?_ _) | (with_reducible refine Kd.C_drew ?_))))) (fun hHeld => ?_)
     clear hK K
     refine norm_ (a' := ?_) ?_ ?_
     rotate_left
     ·
      show Act.put _ (some 15) _ = _
      simp only [Act.put, sq1, sq2, sq3, i64_w, i32_w]
      rfl
     refine one_ (i := 5) (N := some 16) #[true, true, true, true, true, true, true, true, true, true, false] rfl rfl (one_of HT_.out (by kernel_rfl)) (by decide) (fun K hK => ?_)
     have hcv27 := (by first | exact own_string (P := Tryd.prog) Tryd.underlying23 Tryd.underlying5 Tryd.underlying9 (Kd.own_of_R HO235.out) | exact V_string (P := Tryd.prog) Tryd.underlying23 Tryd.underlying5 Tryd.underlying9 HO235.out); have hcv27d := (by first | exact own_string_d (P := Tryd.prog) Tryd.underlying23 Tryd.underlying5 Tryd.underlying9 HO235.out | exact V_string_d (P := Tryd.prog) Tryd.underlying23 Tryd.underlying5 Tryd.underlying9 HO235.out)
     refine value_ (w1 := ?_) (v := ?_) (by rfl) rfl ?_ ?_
     rotate_left 2
     ·
      go_simp
      constructor
      ·
       rfl
      ·
       rfl
     clear hcv27
     refine hK.out _ _ ((Kd.C_string (P := Tryd.prog) (A := A25) (c := (c0 - (ji3).toNat)) Tryd.underlying23 Tryd.underlying5 Tryd.underlying9 (by repeat (first | exact (Kd.C_below (HR236.out) (HB.out)) | (with_reducible refine Kd.C_alloc ?_ _) | (with_reducible refine Kd.C_drewN ?_ _) | (with_reducible refine Kd.C_drew ?_))))) (fun hHeld => ?_)
     clear hK K
     refine norm_ (a' := ?_) ?_ ?_
     rotate_left
     ·
      show Act.put _ (some 16) _ = _
      simp only [Act.put, sq1, sq2, sq3, i64_w, i32_w]
      rfl
     refine pure_ (i := 10) (N := some 21) (v := ?_) (a' := ?_) #[true, true, true, true, true, true, true, true, true, true, true] rfl rfl (any_of HT_.out (by kernel_rfl)) (fun _ _ _ h => h) (Or.inl ⟨by rfl, ?_⟩) ?_ ?_
     rotate_left
     ·
      intro w'
      go_simp
      with_reducible rfl
     rotate_left
     ·
      simp only [Act.put, sq1, sq2, sq3, i64_w, i32_w]
      rfl
     refine done_ (done_of HT_.out (by kernel_rfl)) ?_
     try go_wp2
     go_ret2
     exact ⟨_, by first | rfl | (simp [errW_none, errW_some] <;> rfl) | (simp only [← hji3]; first | rfl | (simp [errW_none, errW_some] <;> rfl)) | (simp [*, errW_none, errW_some] <;> rfl), by first | exact Kd.R_nil _ _ _ _ _ | exact Kd.N_nil _ _ _ _ _ | exact Kd.V_nil _ _ _ _ _ | exact Kd.Q_nil _ _ _ _ _ | exact Kd.S_nil _ _ _ _ _, by repeat (first | (with_reducible first | exact HB.out | apply below_alloc | apply pw_below_drewN | apply below_drew1) | exact HB.out)⟩
   ·
    rw [if_neg c5] at H
    exact absurd H (by simp)
  ·
   rw [if_neg c4] at H
   exact absurd H (by simp)
end Go.Proofs.YtieolhhokepkjaaDoor.Print
namespace Go.Proofs.YtieolhhokepkjaaDoor.CrcPlain
set_option linter.unusedVariables false
set_option linter.unusedSimpArgs false
open Go.RowKit Go.Proofs.YtieolhhokepkjaaDoor.Print Go.Proofs.YtieolhhokepkjaaDoor.Crc
open Go.Proofs.YtieolhhokepkjaaDoorW.PrintWords Go.Proofs.YtieolhhokepkjaaDoorW.PrintLast Go.Proofs.YtieolhhokepkjaaDoorW.PrintMore
theorem ref_open {l : List Int} (hb : Byt l) (hl : l.length < 140737488355000) {k : Nat} (hk : 10 * l.length + 1 ≤ k) : precentorref01_Open.f k l = crc_Open.f l := by
 rw [open_is hl]
 unfold precentorref01_Open.f
 by_cases h4 : l.length < 4
 ·
  rw [if_pos (by omega), if_pos h4]
 ·
  rw [if_neg (by omega), if_neg h4, wrap_id (by omega) (by omega), if_pos (by omega), if_pos (by omega), show ((l.length : Int) - 4).toNat = l.length - 4 by omega]
  have ht := hb.take (l.length - 4)
  have hs := sumOf_range ht
  rw [ref_sum ht (by rw [List.length_take]; omega) (by rw [List.length_take]; omega)]
  simp only [Option.bind_some]
  rw [ref_four hs.1 hs.2]
  simp only [Option.bind_some, List.nil_append, List.length_nil, Nat.zero_add]
  by_cases he : l.drop (l.length - 4) = tl (sumOf (l.take (l.length - 4)))
  ·
   rw [if_pos ((str_eq (tl_byt _ hs.1) (hb.drop _)).2 he.symm), if_pos he, if_pos (by rw [List.length_take]; omega)]
  ·
   rw [if_neg (fun h => he ((str_eq (tl_byt _ hs.1) (hb.drop _)).1 h).symm), if_neg he]
end Go.Proofs.YtieolhhokepkjaaDoor.CrcPlain
