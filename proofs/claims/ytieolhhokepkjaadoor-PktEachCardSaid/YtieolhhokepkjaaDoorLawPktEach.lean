/- PktEach: the law's row, for every input: the call returns true, and each argument reads as it read. No condition. -/
import Derived.Test.YtieolhhokepkjaaDoorWWords
import Derived.ProofKit
import Derived.OpenShut
import Derived.Deep.Slices
import Derived.Test.YtieolhhokepkjaaDoorHandPY
import Derived.Test.YtieolhhokepkjaaDoorCards
import Derived.Test.YtieolhhokepkjaaDoorTie
import Derived.WalkKit
import Derived.ShutString
import Derived.ChangeOld
import Derived.Below
import Derived.SizedLaws
import Derived.Deep.DeepHandedRow
import Derived.Lib.LaidTab
namespace Go.Proofs.YtieolhhokepkjaaDoor.Opens
set_option linter.unusedVariables false
set_option linter.unusedSimpArgs false
open Go.Proofs.YtieolhhokepkjaaDoorW.PrintWords
open Go.Deep (open_slice choose_lt)

/-- What reads as data of type t holds a value of the kind d, and a good one. -/
def Opens {α : Type} (P : Program) (t : TypeId) (d : Kd α) (good : α → Prop) : Prop :=
  ∀ (H : Type) (enc : TypeId × Value → H) (w : World) (base : Nat) (spare : Nat → Bool) (held : Bool) (fuel : Nat) (cs : List Value) (x : DataW H × List MemPlace),
    DataW.trod enc P w base spare held fuel t cs = some x → ∃ v, d.K w v cs ∧ good v

variable {P : Program} {t : TypeId}
theorem int {k : IntKind} (ht : P.underlying t = some (.int k)) : Opens P t (Kd.int k) (fun n => (Lit.int k n).wf = true) := by
  intro H enc w base spare held fuel cs x h
  obtain ⟨n, rfl, rfl, hw⟩ := DataW.trod_int ht h
  exact ⟨n, rfl, hw⟩
theorem bool (ht : P.underlying t = some .bool) : Opens P t Kd.bool (fun _ => True) := by
  intro H enc w base spare held fuel cs x h
  obtain ⟨n, rfl, rfl⟩ := DataW.trod_bool ht h
  exact ⟨n, rfl, trivial⟩
theorem string (ht : P.underlying t = some .string) : Opens P t Kd.string (fun s => s.size ≤ maxLen) := by
  intro H enc w base spare held fuel cs x h
  obtain ⟨n, rfl, rfl, hw⟩ := DataW.trod_string ht h
  exact ⟨n, rfl, hw⟩

theorem mapM_at {α β : Type} (f : α → Option β) : ∀ (l : List α) (r : List β), l.mapM f = some r → r.length = l.length ∧ ∀ (i : Nat) (a : α), l[i]? = some a → ∃ b, r[i]? = some b ∧ f a = some b := by
  intro l
  induction l with
  | nil =>
    intro r h
    simp at h
    subst h
    exact ⟨rfl, fun i a h => by simp at h⟩
  | cons z l ih =>
    intro r h
    rw [List.mapM_cons] at h
    obtain ⟨b, hb, h⟩ := Option.bind_eq_some_iff.1 h
    obtain ⟨r', hr, h⟩ := Option.bind_eq_some_iff.1 h
    cases h
    obtain ⟨hl, hi⟩ := ih r' hr
    refine ⟨by simp [hl], fun i a ha => ?_⟩
    cases i with
    | zero => simp at ha; subst ha; exact ⟨b, rfl, hb⟩
    | succ i => simp at ha; simpa using hi i a ha

theorem cells_at {w : World} {base n : Nat} {a : Addr} {cs : List Value} (h : w.cells? base a n = some cs) : cs.length = n ∧ ∀ (i : Nat) (u : Value), cs[i]? = some u → w.cell? (a.add i) = some u := by
  unfold World.cells? at h
  split at h
  · obtain ⟨hl, hi⟩ := mapM_at _ _ _ h
    refine ⟨by simpa using hl, fun i u hu => ?_⟩
    have hlt : i < n := by
      have := (List.getElem?_eq_some_iff.1 hu).1
      simp at hl
      omega
    obtain ⟨b, hb, hc⟩ := hi i i (by simp [hlt])
    rw [hb] at hu
    cases hu
    exact hc
  · cases h

theorem slice {α : Type} {e : TypeId} {d : Kd α} {good : α → Prop} (ht : P.underlying t = some (.slice e)) (hc : P.cellsOf e = d.sz) (he : Opens P e d good) :
    Opens P t (Kd.slice e d) (fun xs => xs.length ≤ maxLen ∧ ∀ x ∈ xs, good x) := by
  intro H enc w base spare held fuel cs x h
  rcases open_slice ht h with ⟨rfl, _⟩ | ⟨a, len, cap, m, n, D, Pl, rfl, hb, hl, hm, hmm, _, hx⟩
  · exact ⟨[], ⟨none, 0, rfl, Nat.le_refl _, Kd.C_nil d w⟩, by simp, by simp⟩
  · have hle : len ≤ m := by rw [hmm]; split <;> omega
    have hk : ∀ i, i < len → ∃ v, (∃ c, c.length = d.sz ∧ d.K w v c ∧ ∀ (j : Nat) (u : Value), c[j]? = some u → w.cell? (a.add (i * d.sz + j)) = some u) ∧ good v := by
      intro i hi
      obtain ⟨c, h1, h2⟩ := hx i (by omega)
      obtain ⟨v, hv, hg⟩ := he H enc w base spare held n c _ h2
      obtain ⟨hlc, hcc⟩ := cells_at h1
      refine ⟨v, ⟨c, by rw [hlc, hc], hv, fun j u hu => ?_⟩, hg⟩
      have := hcc j u hu
      rw [Go.Deep.add_add, hc] at this
      exact this
    have hex : ∀ n, n ≤ len → ∃ xs : List α, xs.length = n ∧ ∀ (i : Nat) (v : α), xs[i]? = some v → (∃ c, c.length = d.sz ∧ d.K w v c ∧ ∀ (j : Nat) (u : Value), c[j]? = some u → w.cell? (a.add (i * d.sz + j)) = some u) ∧ good v := by
      intro n
      induction n with
      | zero => exact fun _ => ⟨[], rfl, by simp⟩
      | succ n ih =>
        intro hn
        obtain ⟨xs, hl1, h1⟩ := ih (by omega)
        obtain ⟨v, hv⟩ := hk n (by omega)
        refine ⟨xs ++ [v], by simp [hl1], fun i u hu => ?_⟩
        by_cases hi : i < xs.length
        · rw [List.getElem?_append_left hi] at hu
          exact h1 i u hu
        · rw [List.getElem?_append_right (by omega)] at hu
          have h0 : i - xs.length = 0 := by
            have := (List.getElem?_eq_some_iff.1 hu).1
            simp at this
            omega
          rw [h0] at hu
          simp at hu
          subst hu
          rw [show i = n by omega]
          exact hv
    obtain ⟨xs, hlx, hxs⟩ := hex len (Nat.le_refl _)
    refine ⟨xs, ⟨some a, cap, by rw [hlx], by omega, ⟨rfl, ?_, fun _ => ⟨a, rfl, fun j p hp => (hxs j p hp).1⟩⟩⟩, ?_, fun v hv => ?_⟩
    · simp only [maxLen] at hm; omega
    · omega
    · obtain ⟨i, hi⟩ := List.getElem?_of_mem hv
      exact (hxs i v hi).2

/-- The parts of a struct, or of an array, from one on: each at its place. -/
def Parts {α : Type} (P : Program) (parts : List (Nat × TypeId)) (off : Nat) (d : Kd α) (good : α → Prop) : Prop :=
  ∀ (H : Type) (enc : TypeId × Value → H) (w : World) (base : Nat) (spare : Nat → Bool) (held : Bool) (n : Nat) (cs : List Value), cs.length = off + d.sz →
    (∀ (i o : Nat) (t : TypeId), parts[i]? = some (o, t) → ∃ x, DataW.trod enc P w base spare held n t ((cs.drop o).take (P.cellsOf t)) = some x) → ∃ v, d.K w v (cs.drop off) ∧ good v
theorem last {α : Type} {off : Nat} {d : Kd α} {good : α → Prop} (hc : P.cellsOf t = d.sz) (h : Opens P t d good) : Parts P [(off, t)] off d good := by
  intro H enc w base spare held n cs hl hp
  obtain ⟨x, hx⟩ := hp 0 off t rfl
  rw [List.take_of_length_le (by simp [hl, hc])] at hx
  exact h H enc w base spare held n _ _ hx
theorem more {α β : Type} {off : Nat} {l : List (Nat × TypeId)} {a : Kd α} {b : Kd β} {ga : α → Prop} {gb : β → Prop} (hc : P.cellsOf t = a.sz) (h : Opens P t a ga) (hl : Parts P l (off + a.sz) b gb) :
    Parts P ((off, t) :: l) off (Kd.pair a b) (fun p => ga p.1 ∧ gb p.2) := by
  intro H enc w base spare held n cs hlen hp
  have hsz : (Kd.pair a b).sz = a.sz + b.sz := rfl
  rw [hsz] at hlen
  obtain ⟨x, hx⟩ := hp 0 off t rfl
  obtain ⟨v, hv, hg⟩ := h H enc w base spare held n _ _ hx
  obtain ⟨u, hu, hgu⟩ := hl H enc w base spare held n cs (by omega) (fun i o t' hi => hp (i + 1) o t' (by simpa using hi))
  refine ⟨(v, u), ⟨_, _, ?_, hv, hu⟩, hg, hgu⟩
  rw [hc, ← List.drop_drop, List.take_append_drop]
theorem struct {α β : Type} {fs : Array Field} {d : Kd α} {good : α → Prop} {f : β → α} (g : α → β) (ht : P.underlying t = some (.struct fs)) (hc : P.cellsOf t = d.sz) (hf : ∀ v, f (g v) = v)
    {l : List (Nat × TypeId)} (hl : fs.toList.map (fun x => (x.offset, x.type)) = l) (h : Parts P l 0 d good) : Opens P t (Kd.iso d f) (fun x => good (f x)) := by
  intro H enc w base spare held fuel cs x hx
  obtain ⟨xs, n, rfl, _, hlen, hxl, hi⟩ := DataW.trod_struct ht hx
  obtain ⟨v, hv, hg⟩ := h H enc w base spare held n cs (by omega) (fun i o t' he => by
    rw [← hl, List.getElem?_map] at he
    obtain ⟨fl, hfl, he⟩ := Option.map_eq_some_iff.1 he
    cases he
    have hfs : fs[i]? = some fl := by rw [← Array.getElem?_toList]; exact hfl
    have hlt : i < fs.size := (Array.getElem?_eq_some_iff.1 hfs).1
    exact ⟨xs[i]'(by omega), by rw [hi i fl hfs]; exact List.getElem?_eq_getElem (by omega)⟩)
  rw [List.drop_zero] at hv
  exact ⟨g v, by show d.K w (f (g v)) cs; rw [hf]; exact hv, by show good (f (g v)); rw [hf]; exact hg⟩
theorem array {α β : Type} {n : Nat} {e : TypeId} {d : Kd α} {good : α → Prop} {f : β → α} (g : α → β) (ht : P.underlying t = some (.array n e)) (hc : P.cellsOf t = d.sz) (hf : ∀ v, f (g v) = v)
    {l : List (Nat × TypeId)} (hl : (List.range n).map (fun i => (i * P.cellsOf e, e)) = l) (h : Parts P l 0 d good) : Opens P t (Kd.iso d f) (fun x => good (f x)) := by
  intro H enc w base spare held fuel cs x hx
  obtain ⟨xs, m, rfl, _, hlen, hxl, hi⟩ := DataW.trod_array ht hx
  obtain ⟨v, hv, hg⟩ := h H enc w base spare held m cs (by omega) (fun i o t' he => by
    rw [← hl, List.getElem?_map] at he
    obtain ⟨j, hj, he⟩ := Option.map_eq_some_iff.1 he
    cases he
    obtain ⟨hlt, rfl⟩ := List.getElem?_eq_some_iff.1 hj
    simp only [List.getElem_range, List.length_range] at hlt ⊢
    exact ⟨xs[i]'(by omega), by rw [hi i hlt]; exact List.getElem?_eq_getElem (by omega)⟩)
  rw [List.drop_zero] at hv
  exact ⟨g v, by show d.K w (f (g v)) cs; rw [hf]; exact hv, by show good (f (g v)); rw [hf]; exact hg⟩

theorem okWide_array {r : Reach} {b0 n : Nat} {e : TypeId} {w : World} {v : Value} (ht : P.underlying t = some (.array n e)) (h : Value.okWide P w r b0 t v) : ∃ cs, v = .agg cs ∧ cs.size = P.cellsOf t := by
  simp only [Value.okWide, ht] at h
  obtain ⟨cs, h1, h2, _⟩ := h
  exact ⟨cs, h1, h2⟩
/-- An argument that is one cell. -/
theorem arg_one {H : Type} {enc : TypeId × Value → H} {α : Type} {d : Kd α} {good : α → Prop} (h : Opens P t d good) {W : World} {base : Nat} {spare : Nat → Bool} {held : Bool} {v : Value} {x : DataW H} {ps : List MemPlace}
    (hv : v.cells = #[v]) (ht : DataW.Trod enc P W base spare held t v x ps) : ∃ y, d.K W y [v] ∧ good y := by
  obtain ⟨fuel, hf⟩ := ht
  rw [hv] at hf
  exact h H enc W base spare held fuel _ _ hf
/-- An argument that is a struct, or an array. -/
theorem arg_agg {H : Type} {enc : TypeId × Value → H} {α : Type} {d : Kd α} {good : α → Prop} (h : Opens P t d good) {W : World} {base : Nat} {spare : Nat → Bool} {held : Bool} {cs : Array Value} {x : DataW H} {ps : List MemPlace}
    (ht : DataW.Trod enc P W base spare held t (.agg cs) x ps) : ∃ y, d.K W y cs.toList ∧ good y := by
  obtain ⟨fuel, hf⟩ := ht
  exact h H enc W base spare held fuel _ _ hf
end Go.Proofs.YtieolhhokepkjaaDoor.Opens
namespace Go.Proofs.YtieolhhokepkjaaDoor.PktEachS
open Go.RowKit Go.Proofs.YtieolhhokepkjaaDoor.Print Go.Proofs.YtieolhhokepkjaaDoor.Opens
open Go.Proofs.YtieolhhokepkjaaDoorW.PrintWords Go.Proofs.YtieolhhokepkjaaDoorW.PrintLast
set_option linter.unusedVariables false
def good25 (x : S25) : Prop := (Lit.int .i64 x.f0).wf = true ∧ (Lit.int .i64 x.f1).wf = true ∧ (Lit.int .i64 x.f2).wf = true ∧ (Lit.int .i64 x.f3).wf = true ∧ (Lit.int .i64 x.f4).wf = true ∧ (Lit.int .i64 x.f5).wf = true ∧ (x.f6.length ≤ maxLen ∧ ∀ y_ ∈ x.f6, (Lit.int .i64 y_).wf = true) ∧ (x.f7.length ≤ maxLen ∧ ∀ y_ ∈ x.f7, (Lit.int .u8 y_).wf = true)
theorem opens25 : Opens Tryd.prog 25 k25 good25 := by
  have h := Opens.struct (P := Tryd.prog) (f := (fun x : S25 => (x.f0, x.f1, x.f2, x.f3, x.f4, x.f5, x.f6, x.f7))) (fun p => ⟨p.1, p.2.1, p.2.2.1, p.2.2.2.1, p.2.2.2.2.1, p.2.2.2.2.2.1, p.2.2.2.2.2.2.1, p.2.2.2.2.2.2.2⟩) Tryd.underlying25 (by kernel_rfl) (fun _ => rfl) (by rfl) (Opens.more (by kernel_rfl) (Opens.int Tryd.underlying3) (Opens.more (by kernel_rfl) (Opens.int Tryd.underlying3) (Opens.more (by kernel_rfl) (Opens.int Tryd.underlying3) (Opens.more (by kernel_rfl) (Opens.int Tryd.underlying3) (Opens.more (by kernel_rfl) (Opens.int Tryd.underlying3) (Opens.more (by kernel_rfl) (Opens.int Tryd.underlying3) (Opens.more (by kernel_rfl) (Opens.slice Tryd.underlying22 (by kernel_rfl) (Opens.int Tryd.underlying3)) (Opens.last (by kernel_rfl) (Opens.slice Tryd.underlying23 (by kernel_rfl) (Opens.int Tryd.underlying5))))))))))
  exact h
def good27 (x : S27) : Prop := (Lit.int .i64 x.f0).wf = true ∧ (Lit.int .i64 x.f1).wf = true ∧ good25 x.f2 ∧ (Lit.int .i64 x.f3).wf = true ∧ (Lit.int .i64 x.f4).wf = true ∧ (Lit.int .i64 x.f5).wf = true ∧ (Lit.int .i64 x.f6).wf = true ∧ (x.f7.length ≤ maxLen ∧ ∀ y_ ∈ x.f7, (Lit.int .i64 y_).wf = true)
theorem opens27 : Opens Tryd.prog 27 k27 good27 := by
  have h := Opens.struct (P := Tryd.prog) (f := (fun x : S27 => (x.f0, x.f1, x.f2, x.f3, x.f4, x.f5, x.f6, x.f7))) (fun p => ⟨p.1, p.2.1, p.2.2.1, p.2.2.2.1, p.2.2.2.2.1, p.2.2.2.2.2.1, p.2.2.2.2.2.2.1, p.2.2.2.2.2.2.2⟩) Tryd.underlying27 (by kernel_rfl) (fun _ => rfl) (by rfl) (Opens.more (by kernel_rfl) (Opens.int Tryd.underlying3) (Opens.more (by kernel_rfl) (Opens.int Tryd.underlying3) (Opens.more (by kernel_rfl) opens25 (Opens.more (by kernel_rfl) (Opens.int Tryd.underlying3) (Opens.more (by kernel_rfl) (Opens.int Tryd.underlying3) (Opens.more (by kernel_rfl) (Opens.int Tryd.underlying3) (Opens.more (by kernel_rfl) (Opens.int Tryd.underlying3) (Opens.last (by kernel_rfl) (Opens.slice Tryd.underlying22 (by kernel_rfl) (Opens.int Tryd.underlying3))))))))))
  exact h
/-- THE PLAIN STATEMENT. -/
def Pure : Prop := ∀ (x0 : S27) (x1 : Int) (x2 : List Int), good27 x0 → (Lit.int .u16 x1).wf = true → (x2.length ≤ maxLen ∧ ∀ y_ ∈ x2, (Lit.int .u8 y_).wf = true) → ∃ k : Nat, precentorlaw04_PktEach.f x0.f0 x0.f1 x0.f2.f0 x0.f2.f1 x0.f2.f2 x0.f2.f3 x0.f2.f4 x0.f2.f5 x0.f2.f6 x0.f2.f7 x0.f3 x0.f4 x0.f5 x0.f6 x0.f7 x1 x2 = some true
end Go.Proofs.YtieolhhokepkjaaDoor.PktEachS
namespace Go.Proofs.YtieolhhokepkjaaDoor.PktEachS
set_option linter.unusedVariables false
open Go.RowKit Go.Proofs.YtieolhhokepkjaaDoor.Print Go.Proofs.YtieolhhokepkjaaDoor.Opens Go.Proofs.YtieolhhokepkjaaDoor.NumPlain
open Go.Proofs.YtieolhhokepkjaaDoorW.PrintWords Go.Proofs.YtieolhhokepkjaaDoorW.PrintLast

theorem plain : Pure := by
  intro x ct mo g hc hb
  have hr : 0 ≤ ct ∧ ct ≤ 65535 := by
    simpa [Lit.wf, IntKind.min, IntKind.max, IntKind.bits, IntKind.signed] using hc
  exact ⟨0, if_pos ⟨g.2.2.1.1, by_of (g.2.2.1.2.2.2.2.2.2.2).2, hr, by_of hb.2⟩⟩
end Go.Proofs.YtieolhhokepkjaaDoor.PktEachS
namespace Go.Proofs.YtieolhhokepkjaaDoor.PktEachS
open Go.ChangeShapes Go.WideShapes Go.ChangeAt Go.RowKit Go.Proofs.YtieolhhokepkjaaDoor.Print Go.Proofs.YtieolhhokepkjaaDoor.Opens
open Go.ChangeMaps (open_string shut_string)
open Go.Proofs.YtieolhhokepkjaaDoorW.PrintWords Go.Proofs.YtieolhhokepkjaaDoorW.PrintLast
set_option linter.unusedVariables false
theorem own : ownKnob Tryd.prog.godebug = none := by kernel_rfl
theorem laidOut : laidOutB Tryd.prog = true := by kernel_rfl
theorem gTab : Tryd.prog.globalNamed "precentor/num.bounds" = some 0 := by kernel_rfl
theorem gTabType : (Tryd.prog.globals[0]?).map (·.type) = some 89 := by kernel_rfl
theorem cellsT : Tryd.prog.cellsOf 89 = 9 := by kernel_rfl
theorem cellsI : Tryd.prog.cellsOf 3 = 1 := by kernel_rfl
theorem table {W : World} (h : laidMetH Tryd.prog Rows.pktEachRow.laid W) : Lib.TabIs Tryd.prog W "precentor/num.bounds" .i64 [0, 255, 65535, 0, 0, 0, 0, 0, 4611686018427387904] :=
  Lib.tabIs_of_head (rest := []) gTab gTabType Tryd.underlying89 Tryd.underlying3 cellsI cellsT h
theorem gb {W : World} (h : laidMetH Tryd.prog Rows.pktEachRow.laid W) : GB W := fun j hj => by
  match j, hj with
  | 0, _ => exact (table h).cell gTab 0 (by decide)
  | 1, _ => exact (table h).cell gTab 1 (by decide)
  | 2, _ => exact (table h).cell gTab 2 (by decide)
  | 3, _ => exact (table h).cell gTab 3 (by decide)
  | 4, _ => exact (table h).cell gTab 4 (by decide)
  | 5, _ => exact (table h).cell gTab 5 (by decide)
  | 6, _ => exact (table h).cell gTab 6 (by decide)
  | 7, _ => exact (table h).cell gTab 7 (by decide)
  | 8, _ => exact (table h).cell gTab 8 (by decide)
theorem contract (H : Type) (enc : TypeId × Value → H) (W : World) (base : Nat) (args : Array Value) (ds gs : List (DataW H)) (before : List MemPlace)
    (hval0 : ∀ (j : Nat) t v, Tryd.f8.params[j]? = some t → args[j]? = some v → Value.okWide Tryd.prog W .any base t v)
    (hW : DataW.Whole enc Tryd.prog Tryd.f8.params.toList Rows.pktEachSpec.vars false W args.toList ds gs before) (hL : laidMetH Tryd.prog Rows.pktEachRow.laid W) :
    Calls Tryd.prog 8 args W fun e W' => ∃ v, e = .returned v ∧ Rows.pktEachSpec.post enc Tryd.prog Tryd.f8 false true false false W args v W' := by
  have hval : ∀ (j : Nat) t v, Tryd.f8.params[j]? = some t → args[j]? = some v → Value.okWide Tryd.prog W .any base t v := hval0
  have hW' := hW
  obtain ⟨p, q, hA0, hV, rfl, hfz, hnd⟩ := hW
  have hA : DataW.TrodAll enc Tryd.prog W 0 (fun _ => true) true Tryd.f8.params.toList args.toList ds p := hA0
  rw [Tryd.params8] at hA hval
  obtain ⟨v0, vs0, d0, ds0, p0, q0, hargs, rfl, rfl, h0, r0⟩ := trodAll_cons hA
  obtain ⟨v1, vs1, d1, ds1, p1, q1, rfl, rfl, rfl, h1, r1⟩ := trodAll_cons r0
  obtain ⟨v2, vs2, d2, ds2, p2, q2, rfl, rfl, rfl, h2, r2⟩ := trodAll_cons r1
  obtain ⟨rfl, rfl, rfl⟩ := trodAll_nil r2
  obtain rfl : args = #[v0, v1, v2] := by cases args; simp_all
  obtain ⟨rfl, rfl⟩ := trodVars_none hV
  have k0 := h0
  have lt0 : ∀ x ∈ p0, x.block < W.heap.size := by obtain ⟨m, hm⟩ := k0; exact DataW.trod_lt m _ _ _ hm
  obtain ⟨cs0, rfl, _⟩ := okWide_struct Tryd.underlying27 (hval 0 27 v0 rfl rfl)
  obtain ⟨x0, K0, g0⟩ := Opens.arg_agg opens27 h0
  have z0 := k27_open K0
  obtain ⟨A0_8, c0_8, A0_9, c0_9, A0_14, c0_14, e0, l0_8, C0_8, l0_9, C0_9, l0_14, C0_14⟩ := z0
  have f0 := congrArg List.toArray e0
  rw [Array.toArray_toList] at f0
  subst f0
  obtain ⟨x1, rfl, rfl, rfl, w1⟩ := open_int Tryd.underlying44 (hval 1 44 v1 rfl rfl) h1
  have k2 := h2
  have lt2 : ∀ x ∈ p2, x.block < W.heap.size := by obtain ⟨m, hm⟩ := k2; exact DataW.trod_lt m _ _ _ hm
  obtain ⟨a2, len2, cap2, rfl⟩ := okWide_slice Tryd.underlying23 (hval 2 23 v2 rfl rfl)
  obtain ⟨x2, ⟨A2, c2, e2, l2, C2⟩, g2⟩ := Opens.arg_one (Opens.slice Tryd.underlying23 (by kernel_rfl) (Opens.int Tryd.underlying5)) rfl h2
  simp only [List.cons.injEq, and_true, Value.slice.injEq] at e2
  obtain ⟨rfl, rfl, rfl⟩ := e2
  clear hA0 hval0
  obtain ⟨k, hp⟩ := plain x0 x1 x2 g0 w1 g2
  refine (precentorlaw04_PktEach.calls _ _ _ _ _ _ _ _ _ _ _ _ _ _ _ _ _ _ _ _ _ _ _ _ x2 true W C0_8 l0_8 C0_9 l0_9 C0_14 l0_14 C2 l2 (gb hL) hp).mono fun e W' hh => ?_
  obtain ⟨he, hb⟩ := hh
  have bel : Below W.heap.size W W' := hb
  subst he
  exact ⟨_, rfl, _, _, _, [], _, [], hW', trodAll_mk1 (shut_bool Tryd.underlying4 _), (trodAll_cons_mk (Below.trod laidOut (by kernel_rfl) (of_decide_eq_true (by kernel_rfl)) k0 bel lt0) (trodAll_cons_mk (shut_int Tryd.underlying44 w1) (trodAll_cons_mk (Below.trod laidOut (by kernel_rfl) (of_decide_eq_true (by kernel_rfl)) k2 bel lt2) trodAll_mk0))), rfl, bel.frame _, fun h => by cases h⟩
noncomputable def laidWorld (os : Os) : World :=
  { World.holding Tryd.prog os ⟨#[], #[], []⟩ with heap := (World.holding Tryd.prog os ⟨#[], #[], []⟩).heap.modify 0 fun
      | .cells _ t frozen => .cells #[.int .i64 0, .int .i64 255, .int .i64 65535, .int .i64 0, .int .i64 0, .int .i64 0, .int .i64 0, .int .i64 0, .int .i64 4611686018427387904] t frozen
      | o => o }
theorem laid_met (os : Os) : laidMet Tryd.prog Rows.pktEachRow.laid ((laidWorld os).forCall (fun _ _ => 0) ⟨#[], #[.agg #[.int .i64 0, .int .i64 0, .int .i64 0, .int .i64 0, .int .i64 0, .int .i64 0, .int .i64 0, .int .i64 0, .slice none 0 0, .slice none 0 0, .int .i64 0, .int .i64 0, .int .i64 0, .int .i64 0, .slice none 0 0], .int .u16 0, .slice none 0 0], []⟩).memory :=
  laidMet_of_run' 8 (by kernel_rfl) (by kernel_rfl)
theorem reads (os : Os) {H : Type} (enc : TypeId × Value → H) : ∃ places, DataW.whole enc Tryd.prog ((laidWorld os).forCall (fun _ _ => 0) ⟨#[], #[.agg #[.int .i64 0, .int .i64 0, .int .i64 0, .int .i64 0, .int .i64 0, .int .i64 0, .int .i64 0, .int .i64 0, .slice none 0 0, .slice none 0 0, .int .i64 0, .int .i64 0, .int .i64 0, .int .i64 0, .slice none 0 0], .int .u16 0, .slice none 0 0], []⟩).memory Tryd.f8.params.toList Rows.pktEachSpec.vars false (#[.agg #[.int .i64 0, .int .i64 0, .int .i64 0, .int .i64 0, .int .i64 0, .int .i64 0, .int .i64 0, .int .i64 0, .slice none 0 0, .slice none 0 0, .int .i64 0, .int .i64 0, .int .i64 0, .int .i64 0, .slice none 0 0], .int .u16 0, .slice none 0 0] : Array Value).toList 8 = some ([.agg [.lit (.int .i64 0), .lit (.int .i64 0), .agg [.lit (.int .i64 0), .lit (.int .i64 0), .lit (.int .i64 0), .lit (.int .i64 0), .lit (.int .i64 0), .lit (.int .i64 0), .nil, .nil], .lit (.int .i64 0), .lit (.int .i64 0), .lit (.int .i64 0), .lit (.int .i64 0), .nil], .lit (.int .u16 0), .nil], [], places) :=
  ⟨[], by kernel_rfl⟩
set_option maxRecDepth 100000 in
theorem lifted (os : Os) (started : os.Started) (H : Type) (enc : TypeId × Value → H) (F : Stop.Interp) :
    ReturnsInHanded {} Tryd.checked os 8 .any ((OpenSpec.ofChange Rows.pktEachSpec).preRow enc Tryd.prog Tryd.f8 Rows.pktEachRow.domain false Rows.pktEachRow.laid) (((OpenSpec.ofChange Rows.pktEachSpec).at F).post enc Tryd.prog Tryd.f8 false true false false) := by
  obtain ⟨places, hx⟩ := reads os enc
  refine returnsInHanded_of_row (C := Tryd.checked) (s := OpenSpec.ofChange Rows.pktEachSpec) own started (by kernel_rfl) Tryd.func8
    (witness_row_at (enc := enc) (C := Tryd.checked) false (laidWorld os) #[.agg #[.int .i64 0, .int .i64 0, .int .i64 0, .int .i64 0, .int .i64 0, .int .i64 0, .int .i64 0, .int .i64 0, .slice none 0 0, .slice none 0 0, .int .i64 0, .int .i64 0, .int .i64 0, .int .i64 0, .slice none 0 0], .int .u16 0, .slice none 0 0] rfl (by kernel_rfl) (by kernel_rfl) (by kernel_rfl)
      (OpenSpec.preRow_of_cond 8 hx (by kernel_rfl) (fun k hk => by cases hk) (by kernel_rfl) (laid_met os))) ?_
  intro W base args ds gs before hval hW _ _ _ hL _ _
  exact contract H enc W base args ds gs before hval hW hL
theorem said : Rows.PktEachSaid :=
  OpenClaim.holds_of_cond 8 Tryd.f8 rfl rfl rfl rfl rfl rfl rfl ⟨rfl, rfl, rfl, rfl, rfl⟩ rfl rfl rfl rfl rfl (by kernel_rfl) Tryd.func8 (by kernel_rfl)
    (of_decide_eq_true (by kernel_rfl)) (by unfold Func.isWrapper; first | (rw [if_pos (by decide +kernel)]; kernel_rfl) | (rw [if_neg (by decide +kernel)]; exact ⟨rfl, rfl⟩))
    (fun os started H enc _ F => by rw [OpenClaim.pre_eq_preRow]; exact lifted os started H enc F)
theorem wants (f : FuncId) (fn : Func) (hf : Tryd.pinned.checked.prog.funcNamed "precentor/precentorlaw04.PktEach" = some f) (hfn : Tryd.pinned.checked.prog.funcs[f]? = some fn) :
    false = Tryd.pinned.checked.prog.looks [] ∧ ∀ (j : Nat) t, fn.params[j]? = some t → Tryd.pinned.checked.prog.wantsStandIn t = false := by
  obtain rfl : f = 8 := Option.some.inj ((show Tryd.prog.funcNamed "precentor/precentorlaw04.PktEach" = some 8 by kernel_rfl).symm.trans hf) |>.symm
  obtain rfl : fn = Tryd.f8 := (Option.some.inj (Tryd.func8.symm.trans hfn)).symm
  refine ⟨by kernel_rfl, fun j t ht => ?_⟩
  rw [Tryd.params8] at ht
  have hm := Array.mem_of_getElem? ht
  simp only [Array.mem_def, List.mem_cons, List.not_mem_nil, or_false] at hm
  rcases hm with rfl | rfl | rfl
  · exact (show Tryd.prog.wantsStandIn 27 = false by kernel_rfl)
  · exact (show Tryd.prog.wantsStandIn 44 = false by kernel_rfl)
  · exact (show Tryd.prog.wantsStandIn 23 = false by kernel_rfl)
theorem proved : Rows.PktEachCardSaid :=
  Claim7.holds_tied_plain_at .later [] _ _ _ _ said (fun _ h => by cases h) (by kernel_rfl) (fun _ h => by cases h) pktEach_row_tie rfl ⟨rfl, rfl⟩ (by kernel_rfl) rfl wants (by kernel_rfl)
end Go.Proofs.YtieolhhokepkjaaDoor.PktEachS
namespace Go.Proofs.YtieolhhokepkjaaDoor
/-- The card, under a short name, for the claim. -/
theorem pktEach_holds : Rows.PktEachCardSaid := PktEachS.proved
end Go.Proofs.YtieolhhokepkjaaDoor
