/- A value that reads as data, opened kind by kind: whatever a law is handed (numbers, bools, strings, structs, arrays of a few places, slices of all these) holds what a Lean value of that kind says. No condition. -/
import Derived.Test.YthmgaeecfhmenaaWWords
import Derived.ProofKit
import Derived.OpenShut
import Derived.Deep.Slices
namespace Go.Proofs.Ythmgaeecfhmenaa.Opens
set_option linter.unusedVariables false
set_option linter.unusedSimpArgs false
open Go.Proofs.YthmgaeecfhmenaaW.PrintWords
open Go.Deep (open_slice choose_lt)

/-- What reads as data of type t holds a value of the kind d, and a good one. -/
def Opens {α : Type} (P : Program) (t : TypeId) (d : Kd α) (good : α → Prop) : Prop :=
  ∀ (H : Type) (enc : TypeId × Value → H) (w : World) (base : Nat) (spare : Nat → Bool) (held : Bool) (fuel : Nat) (cs : List Value) (x : DataW H × List MemPlace),
    DataW.trod enc P w base spare held fuel t cs = some x → ∃ v, d.K w v cs ∧ good v

variable {P : Program} {t : TypeId}
theorem int {k : IntKind} (ht : P.underlying t = some (.int k)) : Opens P t (Kd.int k) (fun n => (Lit.int k n).wf = true) := by
  intro H enc w base spare held fuel cs x h
  obtain ⟨n, rfl, rfl, hw⟩ := DataW.trod_int ht h
  exact ⟨n, rfl, hw⟩
theorem bool (ht : P.underlying t = some .bool) : Opens P t Kd.bool (fun _ => True) := by
  intro H enc w base spare held fuel cs x h
  obtain ⟨n, rfl, rfl⟩ := DataW.trod_bool ht h
  exact ⟨n, rfl, trivial⟩
theorem string (ht : P.underlying t = some .string) : Opens P t Kd.string (fun s => s.size ≤ maxLen) := by
  intro H enc w base spare held fuel cs x h
  obtain ⟨n, rfl, rfl, hw⟩ := DataW.trod_string ht h
  exact ⟨n, rfl, hw⟩

theorem mapM_at {α β : Type} (f : α → Option β) : ∀ (l : List α) (r : List β), l.mapM f = some r → r.length = l.length ∧ ∀ (i : Nat) (a : α), l[i]? = some a → ∃ b, r[i]? = some b ∧ f a = some b := by
  intro l
  induction l with
  | nil =>
    intro r h
    simp at h
    subst h
    exact ⟨rfl, fun i a h => by simp at h⟩
  | cons z l ih =>
    intro r h
    rw [List.mapM_cons] at h
    obtain ⟨b, hb, h⟩ := Option.bind_eq_some_iff.1 h
    obtain ⟨r', hr, h⟩ := Option.bind_eq_some_iff.1 h
    cases h
    obtain ⟨hl, hi⟩ := ih r' hr
    refine ⟨by simp [hl], fun i a ha => ?_⟩
    cases i with
    | zero => simp at ha; subst ha; exact ⟨b, rfl, hb⟩
    | succ i => simp at ha; simpa using hi i a ha

theorem cells_at {w : World} {base n : Nat} {a : Addr} {cs : List Value} (h : w.cells? base a n = some cs) : cs.length = n ∧ ∀ (i : Nat) (u : Value), cs[i]? = some u → w.cell? (a.add i) = some u := by
  unfold World.cells? at h
  split at h
  · obtain ⟨hl, hi⟩ := mapM_at _ _ _ h
    refine ⟨by simpa using hl, fun i u hu => ?_⟩
    have hlt : i < n := by
      have := (List.getElem?_eq_some_iff.1 hu).1
      simp at hl
      omega
    obtain ⟨b, hb, hc⟩ := hi i i (by simp [hlt])
    rw [hb] at hu
    cases hu
    exact hc
  · cases h

theorem slice {α : Type} {e : TypeId} {d : Kd α} {good : α → Prop} (ht : P.underlying t = some (.slice e)) (hc : P.cellsOf e = d.sz) (he : Opens P e d good) :
    Opens P t (Kd.slice e d) (fun xs => xs.length ≤ maxLen ∧ ∀ x ∈ xs, good x) := by
  intro H enc w base spare held fuel cs x h
  rcases open_slice ht h with ⟨rfl, _⟩ | ⟨a, len, cap, m, n, D, Pl, rfl, hb, hl, hm, hmm, _, hx⟩
  · exact ⟨[], ⟨none, 0, rfl, Nat.le_refl _, Kd.C_nil d w⟩, by simp, by simp⟩
  · have hle : len ≤ m := by rw [hmm]; split <;> omega
    have hk : ∀ i, i < len → ∃ v, (∃ c, c.length = d.sz ∧ d.K w v c ∧ ∀ (j : Nat) (u : Value), c[j]? = some u → w.cell? (a.add (i * d.sz + j)) = some u) ∧ good v := by
      intro i hi
      obtain ⟨c, h1, h2⟩ := hx i (by omega)
      obtain ⟨v, hv, hg⟩ := he H enc w base spare held n c _ h2
      obtain ⟨hlc, hcc⟩ := cells_at h1
      refine ⟨v, ⟨c, by rw [hlc, hc], hv, fun j u hu => ?_⟩, hg⟩
      have := hcc j u hu
      rw [Go.Deep.add_add, hc] at this
      exact this
    have hex : ∀ n, n ≤ len → ∃ xs : List α, xs.length = n ∧ ∀ (i : Nat) (v : α), xs[i]? = some v → (∃ c, c.length = d.sz ∧ d.K w v c ∧ ∀ (j : Nat) (u : Value), c[j]? = some u → w.cell? (a.add (i * d.sz + j)) = some u) ∧ good v := by
      intro n
      induction n with
      | zero => exact fun _ => ⟨[], rfl, by simp⟩
      | succ n ih =>
        intro hn
        obtain ⟨xs, hl1, h1⟩ := ih (by omega)
        obtain ⟨v, hv⟩ := hk n (by omega)
        refine ⟨xs ++ [v], by simp [hl1], fun i u hu => ?_⟩
        by_cases hi : i < xs.length
        · rw [List.getElem?_append_left hi] at hu
          exact h1 i u hu
        · rw [List.getElem?_append_right (by omega)] at hu
          have h0 : i - xs.length = 0 := by
            have := (List.getElem?_eq_some_iff.1 hu).1
            simp at this
            omega
          rw [h0] at hu
          simp at hu
          subst hu
          rw [show i = n by omega]
          exact hv
    obtain ⟨xs, hlx, hxs⟩ := hex len (Nat.le_refl _)
    refine ⟨xs, ⟨some a, cap, by rw [hlx], by omega, ⟨rfl, ?_, fun _ => ⟨a, rfl, fun j p hp => (hxs j p hp).1⟩⟩⟩, ?_, fun v hv => ?_⟩
    · simp only [maxLen] at hm; omega
    · omega
    · obtain ⟨i, hi⟩ := List.getElem?_of_mem hv
      exact (hxs i v hi).2

/-- The parts of a struct, or of an array, from one on: each at its place. -/
def Parts {α : Type} (P : Program) (parts : List (Nat × TypeId)) (off : Nat) (d : Kd α) (good : α → Prop) : Prop :=
  ∀ (H : Type) (enc : TypeId × Value → H) (w : World) (base : Nat) (spare : Nat → Bool) (held : Bool) (n : Nat) (cs : List Value), cs.length = off + d.sz →
    (∀ (i o : Nat) (t : TypeId), parts[i]? = some (o, t) → ∃ x, DataW.trod enc P w base spare held n t ((cs.drop o).take (P.cellsOf t)) = some x) → ∃ v, d.K w v (cs.drop off) ∧ good v
theorem last {α : Type} {off : Nat} {d : Kd α} {good : α → Prop} (hc : P.cellsOf t = d.sz) (h : Opens P t d good) : Parts P [(off, t)] off d good := by
  intro H enc w base spare held n cs hl hp
  obtain ⟨x, hx⟩ := hp 0 off t rfl
  rw [List.take_of_length_le (by simp [hl, hc])] at hx
  exact h H enc w base spare held n _ _ hx
theorem more {α β : Type} {off : Nat} {l : List (Nat × TypeId)} {a : Kd α} {b : Kd β} {ga : α → Prop} {gb : β → Prop} (hc : P.cellsOf t = a.sz) (h : Opens P t a ga) (hl : Parts P l (off + a.sz) b gb) :
    Parts P ((off, t) :: l) off (Kd.pair a b) (fun p => ga p.1 ∧ gb p.2) := by
  intro H enc w base spare held n cs hlen hp
  have hsz : (Kd.pair a b).sz = a.sz + b.sz := rfl
  rw [hsz] at hlen
  obtain ⟨x, hx⟩ := hp 0 off t rfl
  obtain ⟨v, hv, hg⟩ := h H enc w base spare held n _ _ hx
  obtain ⟨u, hu, hgu⟩ := hl H enc w base spare held n cs (by omega) (fun i o t' hi => hp (i + 1) o t' (by simpa using hi))
  refine ⟨(v, u), ⟨_, _, ?_, hv, hu⟩, hg, hgu⟩
  rw [hc, ← List.drop_drop, List.take_append_drop]
theorem struct {α β : Type} {fs : Array Field} {d : Kd α} {good : α → Prop} {f : β → α} (g : α → β) (ht : P.underlying t = some (.struct fs)) (hc : P.cellsOf t = d.sz) (hf : ∀ v, f (g v) = v)
    {l : List (Nat × TypeId)} (hl : fs.toList.map (fun x => (x.offset, x.type)) = l) (h : Parts P l 0 d good) : Opens P t (Kd.iso d f) (fun x => good (f x)) := by
  intro H enc w base spare held fuel cs x hx
  obtain ⟨xs, n, rfl, _, hlen, hxl, hi⟩ := DataW.trod_struct ht hx
  obtain ⟨v, hv, hg⟩ := h H enc w base spare held n cs (by omega) (fun i o t' he => by
    rw [← hl, List.getElem?_map] at he
    obtain ⟨fl, hfl, he⟩ := Option.map_eq_some_iff.1 he
    cases he
    have hfs : fs[i]? = some fl := by rw [← Array.getElem?_toList]; exact hfl
    have hlt : i < fs.size := (Array.getElem?_eq_some_iff.1 hfs).1
    exact ⟨xs[i]'(by omega), by rw [hi i fl hfs]; exact List.getElem?_eq_getElem (by omega)⟩)
  rw [List.drop_zero] at hv
  exact ⟨g v, by show d.K w (f (g v)) cs; rw [hf]; exact hv, by show good (f (g v)); rw [hf]; exact hg⟩
theorem array {α β : Type} {n : Nat} {e : TypeId} {d : Kd α} {good : α → Prop} {f : β → α} (g : α → β) (ht : P.underlying t = some (.array n e)) (hc : P.cellsOf t = d.sz) (hf : ∀ v, f (g v) = v)
    {l : List (Nat × TypeId)} (hl : (List.range n).map (fun i => (i * P.cellsOf e, e)) = l) (h : Parts P l 0 d good) : Opens P t (Kd.iso d f) (fun x => good (f x)) := by
  intro H enc w base spare held fuel cs x hx
  obtain ⟨xs, m, rfl, _, hlen, hxl, hi⟩ := DataW.trod_array ht hx
  obtain ⟨v, hv, hg⟩ := h H enc w base spare held m cs (by omega) (fun i o t' he => by
    rw [← hl, List.getElem?_map] at he
    obtain ⟨j, hj, he⟩ := Option.map_eq_some_iff.1 he
    cases he
    obtain ⟨hlt, rfl⟩ := List.getElem?_eq_some_iff.1 hj
    simp only [List.getElem_range, List.length_range] at hlt ⊢
    exact ⟨xs[i]'(by omega), by rw [hi i hlt]; exact List.getElem?_eq_getElem (by omega)⟩)
  rw [List.drop_zero] at hv
  exact ⟨g v, by show d.K w (f (g v)) cs; rw [hf]; exact hv, by show good (f (g v)); rw [hf]; exact hg⟩

theorem okWide_array {r : Reach} {b0 n : Nat} {e : TypeId} {w : World} {v : Value} (ht : P.underlying t = some (.array n e)) (h : Value.okWide P w r b0 t v) : ∃ cs, v = .agg cs ∧ cs.size = P.cellsOf t := by
  simp only [Value.okWide, ht] at h
  obtain ⟨cs, h1, h2, _⟩ := h
  exact ⟨cs, h1, h2⟩
/-- An argument that is one cell. -/
theorem arg_one {H : Type} {enc : TypeId × Value → H} {α : Type} {d : Kd α} {good : α → Prop} (h : Opens P t d good) {W : World} {base : Nat} {spare : Nat → Bool} {held : Bool} {v : Value} {x : DataW H} {ps : List MemPlace}
    (hv : v.cells = #[v]) (ht : DataW.Trod enc P W base spare held t v x ps) : ∃ y, d.K W y [v] ∧ good y := by
  obtain ⟨fuel, hf⟩ := ht
  rw [hv] at hf
  exact h H enc W base spare held fuel _ _ hf
/-- An argument that is a struct, or an array. -/
theorem arg_agg {H : Type} {enc : TypeId × Value → H} {α : Type} {d : Kd α} {good : α → Prop} (h : Opens P t d good) {W : World} {base : Nat} {spare : Nat → Bool} {held : Bool} {cs : Array Value} {x : DataW H} {ps : List MemPlace}
    (ht : DataW.Trod enc P W base spare held t (.agg cs) x ps) : ∃ y, d.K W y cs.toList ∧ good y := by
  obtain ⟨fuel, hf⟩ := ht
  exact h H enc W base spare held fuel _ _ hf
end Go.Proofs.Ythmgaeecfhmenaa.Opens
