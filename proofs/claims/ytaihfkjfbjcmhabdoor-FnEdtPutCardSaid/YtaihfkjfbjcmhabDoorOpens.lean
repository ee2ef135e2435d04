/-
  Given data read as values of a kind: for each type that is made of numbers, bools, texts, structs and slices, what can be read as data is a reading in the sense of 'Kd'.
  No conditions but the type's own shape.
-/
import Derived.Test.YtaihfkjfbjcmhabDoorProg
import Derived.DataReads
import Derived.ChangeArms
import Derived.Deep.Slices
import Derived.WideShapes
import Derived.Handed
import Derived.HandedShaped
import Derived.Test.YtaihfkjfbjcmhabDoorWWords
namespace Go.Proofs.YtaihfkjfbjcmhabDoor.Opn
open Go.RowKit Go.ChangeShapes Go.WideShapes Go.Deep Go.Proofs.YtaihfkjfbjcmhabDoorW.PrintWords

/-- Whatever of type t can be read as data reads as a value of the kind d, and G holds of it. -/
structure Opens {α : Type} (P : Program) (t : TypeId) (d : Kd α) (G : α → Prop) : Prop where
  go : ∀ {H : Type} (enc : TypeId × Value → H) (w : World) (base : Nat) (spare : Nat → Bool) (held : Bool) (fuel : Nat) (cs : List Value) (x : DataW H × List MemPlace),
    DataW.trod enc P w base spare held fuel t cs = some x → ∃ v, d.K w v cs ∧ G v

theorem op_int {P : Program} {t : TypeId} {k : IntKind} (ht : P.underlying t = some (.int k)) : Opens P t (Kd.int k) (fun n => (Lit.int k n).wf = true) := by
  constructor
  intro H enc w base spare held fuel cs x h
  obtain ⟨n, rfl, _, hw⟩ := DataW.trod_int ht h
  exact ⟨n, rfl, hw⟩
theorem op_bool {P : Program} {t : TypeId} (ht : P.underlying t = some .bool) : Opens P t Kd.bool (fun _ => True) := by
  constructor
  intro H enc w base spare held fuel cs x h
  obtain ⟨b, rfl, _⟩ := DataW.trod_bool ht h
  exact ⟨b, rfl, trivial⟩
theorem op_string {P : Program} {t : TypeId} (ht : P.underlying t = some .string) : Opens P t Kd.string (fun s => s.size ≤ maxLen) := by
  constructor
  intro H enc w base spare held fuel cs x h
  obtain ⟨s, rfl, _, hs⟩ := DataW.trod_string ht h
  exact ⟨s, rfl, hs⟩
theorem op_imp {α : Type} {P : Program} {t : TypeId} {d : Kd α} {G G' : α → Prop} (h : Opens P t d G) (hg : ∀ v, G v → G' v) : Opens P t d G' := by
  constructor
  intro H enc w base spare held fuel cs x hx
  obtain ⟨v, hv, hG⟩   := h.go enc w base spare held fuel cs x hx
  exact ⟨v, hv, hg v hG⟩
theorem op_iso {α β : Type} {P : Program} {t : TypeId} {d : Kd α} {G : α → Prop} (f : β → α) (g : α → β) (hfg : ∀ a, f (g a) = a) (h : Opens P t d G) : Opens P t (Kd.iso d f) (fun b => G (f b)) := by
  constructor
  intro H enc w base spare held fuel cs x hx
  obtain ⟨v, hv, hG⟩   := h.go enc w base spare held fuel cs x hx
  refine ⟨g v, ?_, ?_⟩
  · show d.K w (f (g v)) cs
    rw [hfg]; exact hv
  · show G (f (g v))
    rw [hfg]; exact hG

/-- Fields one behind the other, from the cell off on. -/
structure Fields {α : Type} (P : Program) (fs : List Field) (off : Nat) (d : Kd α) (G : α → Prop) : Prop where
  go : ∀ {H : Type} (enc : TypeId × Value → H) (w : World) (base : Nat) (spare : Nat → Bool) (held : Bool) (fuel : Nat) (cs : List Value), cs.length = off + d.sz →
    (∀ f ∈ fs, ∃ y, DataW.trod enc P w base spare held fuel f.type ((cs.drop f.offset).take (P.cellsOf f.type)) = some y) → ∃ v, d.K w v (cs.drop off) ∧ G v
theorem fo_last {α : Type} {P : Program} {f : Field} {off : Nat} {d : Kd α} {G : α → Prop} (ho : f.offset = off) (hc : P.cellsOf f.type = d.sz) (h : Opens P f.type d G) : Fields P [f] off d G := by
  constructor
  intro H enc w base spare held fuel cs hl hf
  obtain ⟨y, hy⟩ := hf f (List.mem_singleton.2 rfl)
  rw [ho, hc, List.take_of_length_le (by rw [List.length_drop]; omega)] at hy
  exact h.go enc w base spare held fuel _ y hy
theorem fo_cons {α β : Type} {P : Program} {f : Field} {fs : List Field} {off : Nat} {d : Kd α} {e : Kd β} {G : α → Prop} {K : β → Prop} (ho : f.offset = off) (hc : P.cellsOf f.type = d.sz) (h : Opens P f.type d G)
    (hr : Fields P fs (off + d.sz) e K) : Fields P (f :: fs) off (Kd.pair d e) (fun v => G v.1 ∧ K v.2) := by
  constructor
  intro H enc w base spare held fuel cs hl hf
  obtain ⟨y, hy⟩ := hf f List.mem_cons_self
  rw [ho, hc] at hy
  obtain ⟨v, hv, hG⟩   := h.go enc w base spare held fuel _ y hy
  have hl' : cs.length = off + d.sz + e.sz := by
    have : (Kd.pair d e).sz = d.sz + e.sz := rfl
    omega
  obtain ⟨u, hu, hK⟩ := hr.go enc w base spare held fuel cs hl' (fun g hg => hf g (List.mem_cons_of_mem _ hg))
  refine ⟨(v, u), ⟨(cs.drop off).take d.sz, cs.drop (off + d.sz), ?_, hv, hu⟩, hG, hK⟩
  rw [← List.drop_drop, List.take_append_drop]
theorem op_struct {α : Type} {P : Program} {t : TypeId} {fs : Array Field} {d : Kd α} {G : α → Prop} (ht : P.underlying t = some (.struct fs)) (hc : P.cellsOf t = d.sz) (h : Fields P fs.toList 0 d G) : Opens P t d G := by
  constructor
  intro H enc w base spare held fuel cs x hx
  obtain ⟨xs, n, _, _, hl, hlen, hf⟩ := DataW.trod_struct ht hx
  obtain ⟨v, hv, hG⟩ := h.go enc w base spare held n cs (by omega) (fun f hm => by
    obtain ⟨i, hi, rfl⟩ := List.getElem_of_mem hm
    have hi' : i < fs.size := by simpa using hi
    have := hf i fs[i] (by simp [hi'])
    refine ⟨xs[i]'(by omega), ?_⟩
    rw [Array.getElem_toList]
    rw [this, List.getElem?_eq_getElem])
  exact ⟨v, by simpa using hv, hG⟩
theorem op_slice {α : Type} {P : Program} {t e : TypeId} {d : Kd α} {G : α → Prop} (ht : P.underlying t = some (.slice e)) (hc : P.cellsOf e = d.sz) (h : Opens P e d G) (z : α) : Opens P t (Kd.slice e d) (fun xs => xs.length ≤ 9223372036854775807 ∧ ∀ x ∈ xs, G x) := by
  constructor
  intro H enc w base spare held fuel cs x hx
  rcases open_slice ht hx with ⟨rfl, _⟩ | ⟨a, len, cap, m, n, D, Pl, rfl, hb, hl, hm, hmm, _, hel⟩
  · exact ⟨[], ⟨none, 0, rfl, Nat.le_refl _, rfl, by simp, fun hp => absurd hp (by simp)⟩, by simp, fun x hx => by simp at hx⟩
  have hle : len ≤ m := by rw [hmm]; split <;> omega
  have key : ∀ i : Nat, ∃ v : α, i < len → ∃ c, c.length = d.sz ∧ d.K w v c ∧ (∀ j u, c[j]? = some u → w.cell? (a.add (i * d.sz + j)) = some u) ∧ G v := by
    intro i
    by_cases hi : i < len
    · obtain ⟨cs', h1, h2⟩ := hel i (by omega)
      obtain ⟨v, hv, hG⟩ := h.go enc w base spare held n cs' _ h2
      obtain ⟨_, hlen, hcell⟩ := World.cells?_some h1
      rw [hc] at hlen hcell
      refine ⟨v, fun _ => ⟨cs', hlen, hv, fun j u hu => ?_, hG⟩⟩
      have hj : j < cs'.length := (List.getElem?_eq_some_iff.1 hu).1
      have := hcell j (by omega)
      rw [Go.Deep.add_add] at this
      rw [this, hu]
    · exact ⟨z, fun hp => absurd hp hi⟩
  refine ⟨(List.range len).map fun i => Classical.choose (key i), ⟨some a, cap, by simp, by simpa using hl, by simp, by unfold maxLen at hm; simp; omega, fun _ => ⟨a, rfl, fun j p hj => ?_⟩⟩, by unfold maxLen at hm; simp; omega, fun x hx => ?_⟩
  · have hj' : j < len := by
      have := (List.getElem?_eq_some_iff.1 hj).1
      simpa using this
    have hp : Classical.choose (key j) = p := by simpa [List.getElem?_range hj'] using hj
    obtain ⟨c, h1, h2, h3, _⟩ := Classical.choose_spec (key j) hj'
    rw [hp] at h2
    exact ⟨c, h1, h2, h3⟩
  · obtain ⟨i, hi, rfl⟩ := List.mem_map.1 hx
    obtain ⟨_, _, _, _, hG⟩ := Classical.choose_spec (key i) (List.mem_range.1 hi)
    exact hG
/-- A parameter that is a slice. -/
theorem arg_slice {α : Type} {P : Program} {t e : TypeId} {d : Kd α} {G : List α → Prop} (h : Opens P t (Kd.slice e d) G) {H : Type} {enc : TypeId × Value → H} {w : World} {base : Nat} {spare : Nat → Bool} {held : Bool} {A : Option Addr} {n c : Nat} {y : DataW H} {ps : List MemPlace}
    (hx : DataW.Trod enc P w base spare held t (.slice A n c) y ps) : ∃ xs : List α, xs.length = n ∧ n ≤ c ∧ d.C w A xs.length xs ∧ G xs := by
  obtain ⟨fuel, hf⟩ := hx
  obtain ⟨xs, ⟨A', c', he, hl, hC⟩, hG⟩   := h.go enc w base spare held fuel _ _ hf
  simp [Value.cells] at he
  obtain ⟨rfl, rfl, rfl⟩ := he
  exact ⟨xs, rfl, hl, hC, hG⟩
/-- A parameter that is a struct. -/
theorem arg_struct {α : Type} {P : Program} {t : TypeId} {d : Kd α} {G : α → Prop} (h : Opens P t d G) {H : Type} {enc : TypeId × Value → H} {w : World} {base : Nat} {spare : Nat → Bool} {held : Bool} {cs : Array Value} {y : DataW H} {ps : List MemPlace}
    (hx : DataW.Trod enc P w base spare held t (.agg cs) y ps) : ∃ x : α, d.K w x cs.toList ∧ G x := by
  obtain ⟨fuel, hf⟩ := hx
  obtain ⟨x, hK, hG⟩   := h.go enc w base spare held fuel _ _ hf
  exact ⟨x, by simpa [Value.cells] using hK, hG⟩

/-- A law that answers at every world of the program's shape in which X holds, answers as its row says. -/
theorem returnsInHanded_laid {H : Type} {enc : TypeId × Value → H} {a : Assume} {C : Checked} {os : Os} {f : FuncId} {fn : Func} {s : ChangeSpec} {conds : List PathCond} {apart fresh handsOn again : Bool} {X : World → Array Value → Prop}
    (hX : ∀ (w w' : World) (args : Array Value), w.heap = w'.heap → X w args → X w' args) (own : ownKnob C.prog.godebug = none) (started : os.Started) (noInit : C.prog.inits.idxOf? f = none) (hfn : C.prog.funcs[f]? = some fn)
    (start : ∃ (w : World) (tape : Tape) (i : Input), w.os = os ∧ (w.forCall tape i).Shaped C.prog ∧ i.vars = [] ∧ Input.okWide C.prog (w.forCall tape i) .any w.heap.size f i ∧
      ((s.pre enc C.prog fn conds apart (w.forCall tape i).memory i.args ∧ X (w.forCall tape i).memory i.args) ∧ sizedMet enc C.prog fn (OpenSpec.ofChange s) apart (w.forCall tape i).memory i.args) ∧ a.holds C.prog (lone (Frame.enter C.prog f i.args .normal) [] (w.forCall tape i)))
    (law : ∀ (W : World) (base : Nat) (args : Array Value) (ds gs : List (DataW H)) (before : List MemPlace),
      (∀ (j : Nat) t v, fn.params[j]? = some t → args[j]? = some v → Value.okWide C.prog W .any base t v) → DataW.Whole enc C.prog fn.params.toList s.vars apart W args.toList ds gs before →
      conds.all (PathCond.test C.prog ⟨fn.params.toList, ds, s.plain.varTypes C.prog, gs⟩) = true →
      (DataW.weightsEach C.prog (fn.params.toList ++ s.plain.varTypes C.prog) (ds ++ gs)).all (· ≤ reachBytes) = true → X W args → W.ShapedOpen C.prog → a.holds C.prog (lone (Frame.enter C.prog f args .normal) [] W) →
      Calls C.prog f args W fun e W' => ∃ v, e = .returned v ∧ s.post enc C.prog fn apart fresh handsOn again W args v W') :
    ReturnsInHanded a C os f .any (fun w args => (s.pre enc C.prog fn conds apart w args ∧ X w args) ∧ sizedMet enc C.prog fn (OpenSpec.ofChange s) apart w args) (s.post enc C.prog fn apart fresh handsOn again) := by
  refine returnsInHanded_of_calls own started noInit start ?_
  intro w tape i _ shape _ good fits held
  obtain ⟨_, _, _, g, hg, _, _, _, _, vals⟩ := good
  obtain rfl : g = fn := Option.some.inj (hg.symm.trans hfn)
  obtain ⟨⟨⟨ds, gs, before, whole, conds'⟩, x⟩, size⟩ := fits
  refine (law _ w.heap.size i.args ds gs before vals (DataW.Whole.of_heap (w' := w.forCall tape i) (by rfl) whole) conds' (size.weights whole) (hX _ _ _ (by rfl) x) shape held).mono ?_
  rintro _ W' ⟨v, rfl, post⟩
  exact ChangeSpec.post_blind post
end Go.Proofs.YtaihfkjfbjcmhabDoor.Opn
