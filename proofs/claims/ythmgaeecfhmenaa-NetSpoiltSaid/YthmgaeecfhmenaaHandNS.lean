/- NetSpoilt: that its call returns true, for every row of letters, places and bytes. Conditions stand in each theorem. -/
import Derived.Test.YthmgaeecfhmenaaSpoiltFacts
import Derived.Test.YthmgaeecfhmenaaHand3
import Derived.Test.YthmgaeecfhmenaaHandNSa
namespace Go.Proofs.Ythmgaeecfhmenaa.Print
set_option linter.unusedVariables false
set_option linter.unusedSimpArgs false
open Go.RowKit Go.Proofs.YthmgaeecfhmenaaW.PrintWords Go.Proofs.YthmgaeecfhmenaaW.PrintLast Go.Proofs.YthmgaeecfhmenaaW.PrintMore Go.Proofs.Ythmgaeecfhmenaa.Crc Go.Proofs.Ythmgaeecfhmenaa.CrcPlain Go.Proofs.Ythmgaeecfhmenaa.NetPlain
theorem boxed5 (w : World) (cs : Array Value) : ∃ w0 : World, w.alloc (Obj.cells cs 49) = w0 ∧ Below w.heap.size w w0 ∧ w0.heap[w.heap.size]? = some (.cells cs 49 (0, 0)) :=
  ⟨_, rfl, below_alloc (Below.refl _ _) _, blk_new w _⟩
theorem cutL {w : World} {A : Option Addr} {c : Nat} {xs : List S29} (h : Kd.C k29 w A xs.length xs) (hc : xs.length ≤ c) (m : Nat) (hm : m ≤ xs.length) (i j : Int) (hi : i = (m : Int)) (hj : j = (m : Int)) :
    (∀ W : World, (Instr.slice 22 (.slice A xs.length c) none (some (.int .i64 i)) none).run Try.prog W = .ok (.slice A (xs.take m).length c) W) ∧ (xs.take m).length ≤ c ∧ Kd.C k29 w A (xs.take m).length (xs.take m) ∧
    ∃ (B : Option Addr) (d : Nat), (∀ W : World, (Instr.slice 22 (.slice A xs.length c) (some (.int .i64 j)) none none).run Try.prog W = .ok (.slice B (xs.drop m).length d) W) ∧ (xs.drop m).length ≤ d ∧ Kd.C k29 w B (xs.drop m).length (xs.drop m) := by
  subst hi hj
  obtain ⟨i5, hi5, hz5, hs5, _⟩ := info_parts info29
  refine ⟨fun W => ?_, by rw [List.length_take]; omega, Kd.C_take h hm, _, c - m, fun W => ?_, by rw [List.length_drop]; omega, Kd.C_drop h hm hc⟩
  · have := cut_to (P := Try.prog) 22 29 .i64 Try.underlying22 hi5 A xs.length c (m : Int) (by omega) (by omega) hc W
    rw [Int.toNat_natCast] at this
    rw [this, List.length_take, Nat.min_eq_left hm]
  · have := cut_from (P := Try.prog) 22 29 .i64 Try.underlying22 hi5 3 hs5 A xs.length c (m : Int) (by omega) (by omega) W
    rw [Int.toNat_natCast] at this
    rw [this, List.length_drop]; rfl
theorem mea_ {r n : Nat} {x : Int} (h : r < n) (hx : x = ((r + 1 : Nat) : Int)) : n - (intOf (Value.int .i64 x)).toNat < n - (intOf (Value.int .i64 (r : Int))).toNat := by subst hx; simp only [intOf, Int.toNat_natCast]; omega
open Classical in
noncomputable def precentorlaw05_NetSpoilt.f (L : List S29) (I at_ : Int) (by_ : List Int) (ag : Int) : Option Bool :=
  if (∀ x ∈ L, Byt x.f1) ∧ Byt by_ ∧ (-9223372036854775808 ≤ I ∧ I ≤ 9223372036854775807) then some true else none
set_option maxRecDepth 100000 in
set_option maxHeartbeats 40000000 in
theorem precentorlaw05_NetSpoilt.is (A : Option Addr) (c : Nat) (L : List S29) (I at_ : Int) (Ab : Option Addr) (cb : Nat) (by_ : List Int) (ag : Int) (w : World) (hr : Kd.C k29 w A L.length L) (hc : L.length ≤ c) (hb_ : Kd.C (Kd.int .u8) w Ab by_.length by_) (hcb : by_.length ≤ cb) (hx : ∀ x ∈ L, Byt x.f1) (hy : Byt by_) (hI : -9223372036854775808 ≤ I ∧ I ≤ 9223372036854775807) :
    Calls Try.prog 5 #[.agg #[.slice A L.length c, .int .i64 I, .int .i64 at_, .slice Ab by_.length cb, .int .i64 ag]] w fun e' w' => e' = .returned (.bool true) ∧ Below w.heap.size w w' := by
  obtain ⟨w0, hw0, hB0, X0⟩ := boxed5 w #[.slice A L.length c, .int .i64 I, .int .i64 at_, .slice Ab by_.length cb, .int .i64 ag]
  have q0 := blk_cell X0 0
  have q1 := blk_cell X0 1
  have q2 := blk_cell X0 2
  have q3 := blk_cell X0 3
  have q4 := blk_cell X0 4
  have q0 : w0.cell? ⟨w.heap.size, 0, none⟩ = some (.slice A L.length c) := q0
  have q1 : w0.cell? ⟨w.heap.size, 1, none⟩ = some (.int .i64 I) := q1
  have q2 : w0.cell? ⟨w.heap.size, 2, none⟩ = some (.int .i64 at_) := q2
  have q3 : w0.cell? ⟨w.heap.size, 3, none⟩ = some (.slice Ab by_.length cb) := q3
  have q4 : w0.cell? ⟨w.heap.size, 4, none⟩ = some (.int .i64 ag) := q4
  have HB := Aside0.mk hB0
  have HL := Aside0.mk (Kd.C_below hr hB0)
  have HBY := Aside0.mk (Kd.C_below hb_ hB0)
  have HC := Lib.hid hc
  have HCB := Lib.hid hcb
  have HXB := Lib.hid hx
  have HYB := Lib.hid hy
  have HII := Lib.hid hI
  clear hr hc hb_ hcb hx hy hI hB0 X0
  go_enter Try.func5, Try.ntmps5
  go_wp2_with fail
  clear q0 q1 q2 q3 q4
  refine (show Calls Try.prog 9 #[] w0 _ from precentorlaw05_shown.calls true w0 rfl).mono ?_
  rintro e_ w1 ⟨rfl, hb⟩
  have n0_ := Aside0.mk (below_step HB.out hb)
  have n1_ := Aside0.mk (Kd.C_below HL.out hb)
  have n2_ := Aside0.mk (Kd.C_below HBY.out hb)
  clear HB HL HBY
  have HB := n0_
  have HL := n1_
  have HBY := n2_
  clear n0_ n1_ n2_
  clear hb hw0
  obtain ⟨fw, hfw⟩ : ∃ b, (decide (L.length ≤ 60) && fewB L) = b := ⟨_, rfl⟩
  have HFW := Lib.hid hfw
  have HCT := Lib.hid (show Calls Try.prog 10 #[.slice A L.length c, .int .i64 60] w1 _ from precentorref05_Few.calls 70 A c L 60 fw w1 HL.out HC.out (by rw [few_is L (Nat.le_refl _), hfw]))
  clear hfw
  go_wp2_with fail
  refine HCT.out.mono ?_
  rintro e_ w2 ⟨rfl, hd⟩
  have hb := hd.below
  clear HCT hd
  have n0_ := Aside0.mk (below_step HB.out hb)
  have n1_ := Aside0.mk (Kd.C_below HL.out hb)
  have n2_ := Aside0.mk (Kd.C_below HBY.out hb)
  clear HB HL HBY
  have HB := n0_
  have HL := n1_
  have HBY := n2_
  clear n0_ n1_ n2_
  clear hb
  cases fw
  · skip
    go_wp2_with fail
    go_ret
    exact ⟨rfl, HB.out⟩
  have hfw := HFW.out
  rw [Bool.and_eq_true, decide_eq_true_eq] at hfw
  clear HFW
  have HFW := Lib.hid hfw
  clear hfw
  by_cases hb1 : (by_.length : Int) > 1000
  · skip
    have a0 : decide ((by_.length : Int) > 1000) = true := decide_eq_true (by omega)
    have a1 : decide ((1000 : Int) < (by_.length : Int)) = true := decide_eq_true (by omega)
    have a2 : decide (1000 < by_.length) = true := decide_eq_true (by omega)
    clear hb1
    go_wp2_with fail
    go_ret
    exact ⟨rfl, HB.out⟩
  have hb10 : decide ((by_.length : Int) > 1000) = false := decide_eq_false (by omega)
  have hb11 : decide ((1000 : Int) < (by_.length : Int)) = false := decide_eq_false (by omega)
  have hb12 : decide (1000 < by_.length) = false := decide_eq_false (by omega)
  by_cases hi1 : I < 0
  · skip
    have a0 : decide (I < 0) = true := decide_eq_true (by omega)
    clear hi1
    go_wp2_with fail
    go_ret
    exact ⟨rfl, HB.out⟩
  have hi10 : decide (I < 0) = false := decide_eq_false (by omega)
  by_cases hi2 : I ≥ (L.length : Int)
  · skip
    have a0 : decide (I ≥ (L.length : Int)) = true := decide_eq_true (by omega)
    have a1 : decide ((L.length : Int) ≤ I) = true := decide_eq_true (by omega)
    clear hi2
    go_wp2_with fail
    go_ret
    exact ⟨rfl, HB.out⟩
  have hi20 : decide (I ≥ (L.length : Int)) = false := decide_eq_false (by omega)
  have hi21 : decide ((L.length : Int) ≤ I) = false := decide_eq_false (by omega)
  have HBL := Lib.hid (show by_.length ≤ 1000 by omega)
  obtain ⟨pn, hpn⟩ : ∃ pn : Nat, I = (pn : Int) := ⟨I.toNat, by omega⟩
  have HP := Lib.hid hpn
  have hpl : pn < L.length := by omega
  have HPL := Lib.hid hpl
  have hx1 := few_at HFW.out.2 hpl
  have hxy : Byt (L.getD pn z29).f1 := HXB.out _ (by rw [List.getD_eq_getElem?_getD, List.getElem?_eq_getElem hpl]; exact List.getElem_mem hpl)
  obtain ⟨m, hm, hs⟩ := spoilt_facts L pn at_ by_ HFW.out.1 hpl hx1 hxy HYB.out
  have HSP := Lib.hid hs
  have HX1 := Lib.hid hx1
  have HV := Aside0.mk (Kd.V_mk (d := k29) (e := 29) (base := w2.heap.size) HC.out (Kd.C_F k29_heap HL.out))
  have HCT := Lib.hid (show Calls Try.prog 17 #[.slice A L.length c, .int .i64 I, .int .i64 at_, .slice Ab by_.length cb] w2 _ from net_Spoil.calls (fun k => k < w2.heap.size) A c L I at_ Ab cb by_ m 0 w2 HV.out HBY.out HCB.out (by rw [hpn]; exact hm))
  clear hpn hpl hx1 hxy hm hs hb1 hi1 hi2
  go_wp2_with fail
  refine HCT.out.mono ?_
  rintro e_ w3 ⟨v1, rfl, ⟨Am, cm, rfl, hml, hmf⟩, hb⟩
  have HM := Aside0.mk (Kd.F_now hmf)
  have HMC := Lib.hid hml
  clear HCT HV hmf hml
  have n0_ := Aside0.mk (below_step HB.out hb)
  have n1_ := Aside0.mk (Kd.C_below HL.out hb)
  have n2_ := Aside0.mk (Kd.C_below HBY.out hb)
  clear HB HL HBY
  have HB := n0_
  have HL := n1_
  have HBY := n2_
  clear n0_ n1_ n2_
  clear hb
  clear hb10 hb11 hb12 hi10 hi20 hi21
  go_upto_region 10 with fail
  have hs := HSP.out
  have hml := hs.len
  obtain ⟨⟨x0, xb, xs⟩, hx⟩ : ∃ x, L.getD pn z29 = x := ⟨_, rfl⟩
  obtain ⟨⟨y0, yb, ys⟩, hy⟩ : ∃ y, m.getD pn z29 = y := ⟨_, rfl⟩
  have htw := hs.two
  have ht0 := hs.tw
  have htb := hs.bl
  have htk := hs.tk
  have htd := hs.dr
  rw [hx, hy] at htw ht0 htb
  obtain rfl : y0 = x0 := ht0
  have htb : yb.length = xb.length := htb
  have HSAME := Lib.hid (show m = L → xs = ys from fun h => congrArg S29.f2 (show (⟨y0, xb, xs⟩ : S29) = ⟨y0, yb, ys⟩ by rw [← hx, ← hy, h]))
  have hx1 := HX1.out
  rw [hx] at hx1
  have HXBL := Lib.hid (show xb.length ≤ 1300 from hx1)
  obtain ⟨n, hn, hnm⟩ := again_facts m pn ag by_ (by rw [hml]; exact HFW.out.1) (by rw [hml]; exact HPL.out) (by rw [hy]; show yb.length ≤ 1300; have h : xb.length ≤ 1300 := hx1; omega)
  rw [hy] at hnm
  have HNM := Lib.hid (show ys = true → n = m from hnm)
  have HNF := Lib.hid (show net_Spoil.f m I ag by_ = some (n, 0) by rw [HP.out]; exact hn)
  clear hn hnm
  have hI0 : 0 ≤ I := by have := HP.out; omega
  have hI1 : I < (L.length : Int) := by have := HP.out; have := HPL.out; omega
  have hIt : I.toNat = pn := by have := HP.out; omega
  obtain ⟨ad, Ax, cx, rfl, lx0, lx1, lx2, lxl, hcx⟩ := at_T29 HL.out I hI0 hI1
  obtain ⟨am, Ay, cy, rfl, mx0, mx1, mx2, mxl, hcy⟩ := at_T29 HM.out I hI0 (by rw [hml]; exact hI1)
  have hrl : rd_T29 L I = ⟨y0, xb, xs⟩ := by show L.getD I.toNat z29 = _; rw [hIt, hx]
  have hrm : rd_T29 m I = ⟨y0, yb, ys⟩ := by show m.getD I.toNat z29 = _; rw [hIt, hy]
  rw [hrl] at lx0 lx1 lx2 lxl hcx
  rw [hrm] at mx0 mx1 mx2 mxl hcy
  obtain ⟨sl1, l1, C1, _⟩ := cutL HL.out HC.out pn (by have := HPL.out; omega) I pn HP.out rfl
  obtain ⟨sm1, m1, D1, _⟩ := cutL HM.out HMC.out pn (by have := HPL.out; omega) I pn HP.out rfl
  obtain ⟨_, _, _, Bl, dl, sl2, l2, C2⟩ := cutL HL.out HC.out (pn + 1) (by have := HPL.out; omega) ((pn + 1 : Nat) : Int) (I + 1) rfl (by have := HP.out; omega)
  obtain ⟨_, _, _, Bm, dm, sm2, m2, D2⟩ := cutL HM.out HMC.out (pn + 1) (by have := HPL.out; omega) ((pn + 1 : Nat) : Int) (I + 1) rfl (by have := HP.out; omega)
  rw [htk] at sm1 m1 D1
  rw [htd] at sm2 m2 D2
  rw [hml] at sm1 sm2
  obtain ⟨tk, htk2⟩ : ∃ t, L.take pn = t := ⟨_, rfl⟩
  obtain ⟨dr, hdr2⟩ : ∃ t, L.drop (pn + 1) = t := ⟨_, rfl⟩
  have HTKL := Lib.hid (show tk.length ≤ 60 by rw [← htk2, List.length_take]; have := HFW.out.1; omega)
  have HDRL := Lib.hid (show dr.length ≤ 60 by rw [← hdr2, List.length_drop]; have := HFW.out.1; omega)
  rw [htk2] at sl1 l1 C1 sm1 m1 D1
  rw [hdr2] at sl2 l2 C2 sm2 m2 D2
  have sl1 : ∀ W : World, (Instr.slice 22 (.slice (some ad) L.length c) none (some (.int .i64 I)) none).run Try.prog W = .ok (.slice (some ad) tk.length c) W := sl1
  have sm1 : ∀ W : World, (Instr.slice 22 (.slice (some am) L.length cm) none (some (.int .i64 I)) none).run Try.prog W = .ok (.slice (some am) tk.length cm) W := sm1
  have hw1 : wrap64 (I + 1) = I + 1 := wrap_id (by omega) (by have := HFW.out.1; omega)
  have hI3 : I.toNat < L.length := by rw [hIt]; exact HPL.out
  have HML := Lib.hid hml
  have HTW := Lib.hid htw
  have HTB := Lib.hid htb
  have KC1 := Aside0.mk C1
  have KC2 := Aside0.mk C2
  have KD1 := Aside0.mk D1
  have KD2 := Aside0.mk D2
  have Kl1 := Lib.hid l1
  have Kl2 := Lib.hid l2
  have Km1 := Lib.hid m1
  have Km2 := Lib.hid m2
  have HCX := Aside0.mk hcx
  have HCY := Aside0.mk hcy
  rw [hml]
  rw [htb] at mx1
  clear hs htw htb htk htd hx hy hx1 hIt hrl hrm htk2 hdr2 C1 C2 D1 D2 l1 l2 m1 m2 hcx hcy lxl mxl hml HSP HX1
  refine wp_mono (precentorlaw05_NetSpoilt.first L tk dr I y0 xb ad am Ax Ay Bl Bm c cm cx cy dl dm _ _ _ _ _ _ _ _ _ _ _ _ _ _ _ _ _ _ _ _ _ _ _ _ _ _ _ _ _ _ _ _ _ _ _ _ _ _ _ _ _ _ _ _ _ _ _ _ _ _ _ _ _ _ _ _ _ _ _ _ _ _ _ _ _ _ _ _ _ _ _ _ _ _ _ _ _ _ _ _ _ _ _ _ _ _ _ _ _ _ _ _ _ _ _ _ _ _ _ _ _ _ _ _ _ _ _ _ _ _ _ _ _ _ _ _ _ _ _ _ _ _ _ _ _ _ _ _ _ _ _ _ _ _ _ _ _ _ _ _ _ _ _ _ _ _ _ _ _ _ _ _ _ _ _ _ _ _ _ _ _ _ _ _ _ _ _ _ _ _ _ _ _ _ _ _ _ _ _ _ _ _ _ _ _ _ _ _ _ _ _ _ _ w3 hI0 hI1 hI3 hw1 lx0 lx1 mx0 mx1 sl1 sm1 sl2 sm2 KC1.out Kl1.out KD1.out Km1.out KC2.out Kl2.out KD2.out Km2.out HTKL.out HDRL.out) ?_
  intro e_ a_ wc h_
  cases e_ <;> first | exact False.elim h_ | skip
  obtain ⟨⟨u54, u55, u56, u57, u58, u59, u60, u61, u62, u63, u64, u65, u66, u67, u68, u69, u70, u71, u72, u73, u74, u75, u76, u77, u78, u79, u80, u81, u82, u83, u84, u85, u86, u87, u88, u89, u90, u91, u92, u93, u94, u95, u96, u97, u98, u99, u100, u101, u102, u103, u104, u105, u106, u107, u108, u109, u110, u111, rfl⟩, hbq⟩ := h_
  have HBq := Aside0.mk hbq
  clear hbq
  clear KC1 KC2 KD1 KD2 Kl1 Kl2 Km1 Km2 sl1 sl2 sm1 sm2
  have Qlx0 := Aside0.mk lx0
  have Qlx1 := Aside0.mk lx1
  have Qlx2 := Aside0.mk lx2
  have Qmx0 := Aside0.mk mx0
  have Qmx1 := Aside0.mk mx1
  have Qmx2 := Aside0.mk mx2
  clear lx0 lx1 lx2 mx0 mx1 mx2
  have hb := HBq.out
  clear HBq
  have n0_ := Aside0.mk (below_step HB.out hb)
  have n1_ := Aside0.mk (Kd.C_below HL.out hb)
  have n2_ := Aside0.mk (Kd.C_below HBY.out hb)
  have n3_ := Aside0.mk (Kd.C_below HM.out hb)
  have n4_ := Aside0.mk (Kd.C_below HCX.out hb)
  have n5_ := Aside0.mk (Kd.C_below HCY.out hb)
  have n6_ := Aside0.mk (pw_cell_below hb Qlx0.out)
  have n7_ := Aside0.mk (pw_cell_below hb Qlx1.out)
  have n8_ := Aside0.mk (pw_cell_below hb Qlx2.out)
  have n9_ := Aside0.mk (pw_cell_below hb Qmx0.out)
  have n10_ := Aside0.mk (pw_cell_below hb Qmx1.out)
  have n11_ := Aside0.mk (pw_cell_below hb Qmx2.out)
  clear HB HL HBY HM HCX HCY Qlx0 Qlx1 Qlx2 Qmx0 Qmx1 Qmx2
  have HB := n0_
  have HL := n1_
  have HBY := n2_
  have HM := n3_
  have HCX := n4_
  have HCY := n5_
  have Qlx0 := n6_
  have Qlx1 := n7_
  have Qlx2 := n8_
  have Qmx0 := n9_
  have Qmx1 := n10_
  have Qmx2 := n11_
  clear n0_ n1_ n2_ n3_ n4_ n5_ n6_ n7_ n8_ n9_ n10_ n11_
  clear hb
  have HV := Aside0.mk (Kd.V_mk (d := k29) (e := 29) (base := wc.heap.size) HMC.out (Kd.C_F k29_heap HM.out))
  have hCT := net_Spoil.calls (fun k => k < wc.heap.size) (some am) cm m I ag Ab cb by_ n 0 wc HV.out HBY.out HCB.out HNF.out
  rw [HML.out] at hCT
  have HCT := Lib.hid hCT
  clear hCT
  go_wp2_with fail
  refine HCT.out.mono ?_
  rintro e_ w4 ⟨v2, rfl, ⟨An, cn, rfl, hnl, hnf⟩, hb⟩
  have HN := Aside0.mk (Kd.F_now hnf)
  have HNC := Lib.hid hnl
  clear HCT HV hnl hnf
  have n0_ := Aside0.mk (below_step HB.out hb)
  have n1_ := Aside0.mk (Kd.C_below HL.out hb)
  have n2_ := Aside0.mk (Kd.C_below HBY.out hb)
  have n3_ := Aside0.mk (Kd.C_below HM.out hb)
  have n4_ := Aside0.mk (Kd.C_below HCX.out hb)
  have n5_ := Aside0.mk (Kd.C_below HCY.out hb)
  have n6_ := Aside0.mk (pw_cell_below hb Qlx0.out)
  have n7_ := Aside0.mk (pw_cell_below hb Qlx1.out)
  have n8_ := Aside0.mk (pw_cell_below hb Qlx2.out)
  have n9_ := Aside0.mk (pw_cell_below hb Qmx0.out)
  have n10_ := Aside0.mk (pw_cell_below hb Qmx1.out)
  have n11_ := Aside0.mk (pw_cell_below hb Qmx2.out)
  clear HB HL HBY HM HCX HCY Qlx0 Qlx1 Qlx2 Qmx0 Qmx1 Qmx2
  have HB := n0_
  have HL := n1_
  have HBY := n2_
  have HM := n3_
  have HCX := n4_
  have HCY := n5_
  have Qlx0 := n6_
  have Qlx1 := n7_
  have Qlx2 := n8_
  have Qmx0 := n9_
  have Qmx1 := n10_
  have Qmx2 := n11_
  clear n0_ n1_ n2_ n3_ n4_ n5_ n6_ n7_ n8_ n9_ n10_ n11_
  clear hb
  cases ys
  · have hmL : m = L := HTW.out.elim id (fun h => absurd h.2.1 Bool.false_ne_true)
    have lx0 := Qlx0.out
    have lx1 := Qlx1.out
    have lx2 := Qlx2.out
    have mx0 := Qmx0.out
    have mx1 := Qmx1.out
    have mx2 := Qmx2.out
    cases xs
    · skip
      have hCT := precentorref05_Same.calls 70 (some am) cm m (some ad) c L true w4 HM.out HMC.out HL.out HC.out (by rw [hmL]; exact rsame_refl L (by have := HFW.out.1; omega) (by have := HFW.out.1; omega))
      rw [HML.out] at hCT
      have HCT := Lib.hid hCT
      clear hCT hmL
      go_wp2_with fail
      refine HCT.out.mono ?_
      rintro e_ w5 ⟨rfl, hb⟩
      clear lx0 lx1 lx2 mx0 mx1 mx2
      go_wp2_with fail
      go_ret
      exact ⟨rfl, below_step HB.out hb⟩
    · skip
      have hCT := precentorref05_Same.calls 70 (some am) cm m (some ad) c L true w4 HM.out HMC.out HL.out HC.out (by rw [hmL]; exact rsame_refl L (by have := HFW.out.1; omega) (by have := HFW.out.1; omega))
      rw [HML.out] at hCT
      have HCT := Lib.hid hCT
      clear hCT hmL
      go_wp2_with fail
      refine HCT.out.mono ?_
      rintro e_ w5 ⟨rfl, hb⟩
      clear lx0 lx1 lx2 mx0 mx1 mx2
      go_wp2_with fail
      go_ret
      exact ⟨rfl, below_step HB.out hb⟩
  · obtain rfl : n = m := HNM.out rfl
    have lx0 := Qlx0.out
    have lx1 := Qlx1.out
    have lx2 := Qlx2.out
    have mx0 := Qmx0.out
    have mx1 := Qmx1.out
    have mx2 := Qmx2.out
    have hCT := precentorref05_Same.calls 70 An cn n (some am) cm n true w4 HN.out HNC.out HM.out HMC.out (rsame_refl n (by have := HFW.out.1; have := HML.out; omega) (by have := HFW.out.1; have := HML.out; omega))
    rw [HML.out] at hCT ⊢
    have HCT := Lib.hid hCT
    clear hCT
    go_wp2_with fail
    refine HCT.out.mono ?_
    rintro e_ w5 ⟨rfl, hb⟩
    clear lx0 lx1 lx2 mx0 mx1 mx2
    clear HCT
    have n0_ := Aside0.mk (below_step HB.out hb)
    have n1_ := Aside0.mk (Kd.C_below HL.out hb)
    have n2_ := Aside0.mk (Kd.C_below HBY.out hb)
    have n3_ := Aside0.mk (Kd.C_below HM.out hb)
    have n4_ := Aside0.mk (Kd.C_below HCX.out hb)
    have n5_ := Aside0.mk (Kd.C_below HCY.out hb)
    have n6_ := Aside0.mk (pw_cell_below hb Qlx0.out)
    have n7_ := Aside0.mk (pw_cell_below hb Qlx1.out)
    have n8_ := Aside0.mk (pw_cell_below hb Qlx2.out)
    have n9_ := Aside0.mk (pw_cell_below hb Qmx0.out)
    have n10_ := Aside0.mk (pw_cell_below hb Qmx1.out)
    have n11_ := Aside0.mk (pw_cell_below hb Qmx2.out)
    clear HB HL HBY HM HCX HCY Qlx0 Qlx1 Qlx2 Qmx0 Qmx1 Qmx2
    have HB := n0_
    have HL := n1_
    have HBY := n2_
    have HM := n3_
    have HCX := n4_
    have HCY := n5_
    have Qlx0 := n6_
    have Qlx1 := n7_
    have Qlx2 := n8_
    have Qmx0 := n9_
    have Qmx1 := n10_
    have Qmx2 := n11_
    clear n0_ n1_ n2_ n3_ n4_ n5_ n6_ n7_ n8_ n9_ n10_ n11_
    clear hb
    have lx0 := Qlx0.out
    have lx1 := Qlx1.out
    have lx2 := Qlx2.out
    have mx0 := Qmx0.out
    have mx1 := Qmx1.out
    have mx2 := Qmx2.out
    cases xs
    rotate_left
    · have hmL : n = L := HTW.out.elim id (fun h => absurd h.1.symm Bool.false_ne_true)
      have hCT := precentorref05_Same.calls 70 (some am) cm n (some ad) c L true w5 HM.out HMC.out HL.out HC.out (by rw [hmL]; exact rsame_refl L (by have := HFW.out.1; omega) (by have := HFW.out.1; omega))
      rw [HML.out] at hCT
      have HCT := Lib.hid hCT
      clear hCT hmL
      go_wp2_with fail
      refine HCT.out.mono ?_
      rintro e_ w6 ⟨rfl, hb⟩
      clear lx0 lx1 lx2 mx0 mx1 mx2
      go_wp2_with fail
      go_ret
      exact ⟨rfl, below_step HB.out hb⟩
    rcases HTW.out with hse | hse
    · exact absurd (show false = true from HSAME.out hse) Bool.false_ne_true
    obtain ⟨_, _, hdx, a, ha⟩ := hse
    have HDX := Lib.hid hdx
    have HDA := Lib.hid ha
    clear hdx ha
    go_wp2_with fail
    clear lx0 lx1 lx2 mx0 mx1 mx2
    go_loopw [13, 14, 15] (fun f t k wr => ∃ (fi ti : Int) (r : Nat), r ≤ xb.length ∧ f = Value.int .i64 fi ∧ t = Value.int .i64 ti ∧ k = Value.int .i64 r ∧ Aside0 (Marks yb xb r fi ti) ∧ Aside0 (Below w5.heap.size w5 wr)) (fun _ _ k _ => xb.length - (intOf k).toNat)
    case atStart => exact ⟨-1, -1, 0, Nat.zero_le _, rfl, rfl, rfl, ⟨Or.inl ⟨rfl, rfl, fun j hj => by omega⟩⟩, ⟨Below.refl _ _⟩⟩
    case round =>
      obtain ⟨fi, ti, r, hr, rfl, rfl, rfl, HMK, HBr⟩ := hrel
      have lx0 := pw_cell_below HBr.out Qlx0.out
      have lx1 := pw_cell_below HBr.out Qlx1.out
      have lx2 := pw_cell_below HBr.out Qlx2.out
      have mx0 := pw_cell_below HBr.out Qmx0.out
      have mx1 := pw_cell_below HBr.out Qmx1.out
      have mx2 := pw_cell_below HBr.out Qmx2.out
      by_cases hlt : r < xb.length
      rotate_left
      · obtain rfl : r = xb.length := by omega
        have hme := marks_end HMK.out HDX.out a HDA.out
        have e0 : decide ((xb.length : Int) < (xb.length : Int)) = false := decide_eq_false (by omega)
        have e1 : decide (fi ≥ 0) = true := decide_eq_true hme.1
        have e2 : decide (0 ≤ fi) = true := decide_eq_true hme.1
        have e3 : wrap64 (ti - fi) = ti - fi := wrap_id (by omega) (by have := HXBL.out; omega)
        have e4 : decide (ti - fi ≤ 3) = true := decide_eq_true hme.2.1
        clear hme HMK hlt
        go_wp2_with fail
        go_ret
        exact ⟨rfl, below_step HB.out HBr.out⟩
      have hlt2 : decide ((r : Int) < (xb.length : Int)) = true := decide_eq_true (by omega)
      obtain ⟨ax, rfl, bx⟩ := Kd.at_int (Kd.C_below HCX.out HBr.out) (r : Int) (by omega) (by omega)
      obtain ⟨ay, rfl, bY⟩ := Kd.at_int (Kd.C_below HCY.out HBr.out) (r : Int) (by omega) (by have := HTB.out; omega)
      rw [Int.toNat_natCast] at bx bY
      have hd : Dif yb xb r ↔ rd yb (r : Int) ≠ rd xb (r : Int) := by unfold Dif; rw [rd_nat, rd_nat]
      have HDD := Lib.hid hd
      have HLT := Lib.hid hlt
      have HWR := Lib.hid (show wrap64 ((r : Int) + 1) = ((r + 1 : Nat) : Int) from (wrap_id (by omega) (by have := HXBL.out; omega)).trans (by omega))
      have HRL := Lib.hid (show Value.int .i64 (wrap64 ((r : Int) + 1)) = Value.int .i64 ((r + 1 : Nat) : Int) from congrArg (Value.int .i64) HWR.out)
      have hr0 : (0 : Int) ≤ (r : Int) := by omega
      have hr1 : (r : Int) < (xb.length : Int) := by omega
      generalize rd yb (r : Int) = yv at *
      generalize rd xb (r : Int) = xv at *
      clear hd
      go_upto_region 22 with fail
      refine wp_mono (precentorlaw05_NetSpoilt.bytes_ L.length I xb.length r xv yv ad am ax ay c cm cx cy _ _ _ _ _ _ _ _ _ _ _ _ _ _ _ _ _ _ _ _ _ _ _ _ _ _ _ _ _ _ _ _ _ _ _ _ _ _ _ _ _ _ _ _ _ _ _ _ _ _ _ _ _ _ _ _ _ _ _ _ _ _ _ _ _ _ _ _ _ _ _ _ _ _ _ _ _ _ _ _ _ _ _ _ _ _ _ _ _ _ _ _ _ _ _ _ _ _ _ _ _ _ _ _ _ _ _ _ _ _ _ _ _ _ _ _ _ _ _ _ _ _ _ _ _ _ _ _ _ _ _ _ _ _ _ _ _ _ _ _ _ _ _ _ _ _ _ _ _ _ _ _ _ _ _ _ _ _ _ _ _ _ _ _ _ _ _ _ _ _ _ _ _ _ _ _ _ _ _ _ _ _ _ _ _ _ _ _ _ _ _ _ _ _ hI0 hI1 hr0 hr1 lx1 mx1 bx bY) ?_
      intro e_ a_ wn h_
      cases e_ <;> first | exact False.elim h_ | skip
      obtain ⟨⟨u165, u166, u167, u168, u169, u170, u171, u172, u173, u174, u175, u176, u177, u178, u179, u180, rfl⟩, hbq⟩ := h_
      have n0_ := Aside0.mk (below_step HBr.out hbq)
      clear HBr hbq
      have HBr := n0_
      clear n0_
      clear lx0 lx1 lx2 mx0 mx1 mx2 bx bY
      by_cases he : yv = xv
      · have e1 : (yv != xv) = false := bne_eq_false_iff_eq.2 he
        have HE := Lib.hid he
        clear he
        go_wp2_with fail
        go_round
        case measure => exact mea_ HLT.out HWR.out
        case rel => exact ⟨fi, ti, r + 1, HLT.out, rfl, rfl, HRL.out, ⟨marks_same HMK.out (fun h => HDD.out.1 h HE.out)⟩, HBr⟩
      have e1 : (yv != xv) = true := bne_iff_ne.2 he
      have HE := Lib.hid (HDD.out.2 he)
      clear he
      by_cases hf : fi < 0
      · have e2 : decide (fi < 0) = true := decide_eq_true hf
        have HF := Lib.hid hf
        clear hf
        go_wp2_with fail
        go_round
        case measure => exact mea_ HLT.out HWR.out
        case rel => exact ⟨(r : Int), (r : Int), r + 1, HLT.out, rfl, rfl, HRL.out, ⟨marks_first HMK.out HF.out HE.out⟩, HBr⟩
      have e2 : decide (fi < 0) = false := decide_eq_false hf
      have HF := Lib.hid hf
      clear hf
      go_wp2_with fail
      go_round
      case measure => exact mea_ HLT.out HWR.out
      case rel => exact ⟨fi, (r : Int), r + 1, HLT.out, rfl, rfl, HRL.out, ⟨marks_next HMK.out HF.out HE.out⟩, HBr⟩
theorem precentorlaw05_NetSpoilt.calls (A : Option Addr) (c : Nat) (L : List S29) (I at_ : Int) (Ab : Option Addr) (cb : Nat) (by_ : List Int) (ag : Int) (r : Bool) (w : World) (hr : Kd.C k29 w A L.length L) (hc : L.length ≤ c) (hb_ : Kd.C (Kd.int .u8) w Ab by_.length by_) (hcb : by_.length ≤ cb) (h : precentorlaw05_NetSpoilt.f L I at_ by_ ag = some r) :
    Calls Try.prog 5 #[.agg #[.slice A L.length c, .int .i64 I, .int .i64 at_, .slice Ab by_.length cb, .int .i64 ag]] w fun e' w' => e' = .returned (.bool r) ∧ Below w.heap.size w w' := by
  unfold precentorlaw05_NetSpoilt.f at h
  split at h
  · rename_i hq
    obtain rfl := Option.some.inj h
    exact precentorlaw05_NetSpoilt.is A c L I at_ Ab cb by_ ag w hr hc hb_ hcb hq.1 hq.2.1 hq.2.2
  · cases h

end Go.Proofs.Ythmgaeecfhmenaa.Print
