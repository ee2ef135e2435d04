/-
  A region of open order by one relation over the values of what is listed: each operation is shown once, whatever came up before it.
  Conditions: those of the relation that whoever uses it lays down.
-/
import Derived.Test.YtaihfkjfbjcmhabDoorWInv
import Derived.Test.YtaihfkjfbjcmhabDoorWMore
import Derived.Test.YtaihfkjfbjcmhabDoorApd
namespace Go.Proofs.YtaihfkjfbjcmhabDoor.Reg
open Go.RowKit Go.Proofs.YtaihfkjfbjcmhabDoorW.PrintWords Go.Proofs.YtaihfkjfbjcmhabDoorW.PrintLast
set_option linter.unusedVariables false

/-- The entries of L, each with its value. -/
def ents (e : Nat → Value) (L : List (Nat × Tmp)) : List (Nat × Tmp × Value) := L.map fun x => (x.1, x.2, e x.1)
/-- The values, but for number i. -/
def upv (e : Nat → Value) (i : Nat) (v : Value) : Nat → Value := fun j => if j = i then v else e j
theorem upv_self (e : Nat → Value) (i : Nat) (v : Value) : upv e i v i = v := by simp [upv]
theorem upv_ne (e : Nat → Value) {i j : Nat} (v : Value) (h : j ≠ i) : upv e i v j = e j := by simp [upv, h]
theorem ents_upv {e : Nat → Value} {i : Nat} {v : Value} : ∀ {L : List (Nat × Tmp)}, i ∉ L.map Prod.fst → ents (upv e i v) L = ents e L
  | [], _ => rfl
  | x :: r, h => by
    simp only [List.map_cons, List.mem_cons, not_or] at h
    show (x.1, x.2, upv e i v x.1) :: ents (upv e i v) r = _
    rw [ents_upv h.2, upv_ne e v (fun q => h.1 q.symm)]
    rfl
theorem put_ents {a : Act} {b : Nat → Bool} {e : Nat → Value} {i : Nat} {t : Tmp} {v : Value} {L : List (Nat × Tmp)} (hb : b i = false) (hm : (i, t) ∈ L) (h1 : (L.map Prod.fst).Nodup) (h2 : (L.map Prod.snd).Nodup) :
    (putSel a b (ents e L)).put (some t) v = putSel a (up b i) (ents (upv e i v) L) := by
  obtain ⟨L1, L2, rfl⟩ := List.append_of_mem hm
  simp only [List.map_append, List.map_cons, List.nodup_append, List.nodup_cons] at h1 h2
  have n1 : i ∉ L1.map Prod.fst := fun h => h1.2.2 _ h _ List.mem_cons_self rfl
  have n2 : i ∉ L2.map Prod.fst := h1.2.1.1
  have m1 : t ∉ L1.map Prod.snd := fun h => h2.2.2 _ h _ List.mem_cons_self rfl
  have m2 : t ∉ L2.map Prod.snd := h2.2.1.1
  have es : ∀ f, ents f (L1 ++ (i, t) :: L2) = ents f L1 ++ (i, t, f i) :: ents f L2 := fun f => by simp [ents]
  rw [es, es, ents_upv n1, ents_upv n2, upv_self]
  refine putSel_up hb ?_
  rw [List.all_eq_true]
  intro x hx
  rw [List.mem_append] at hx
  have hh : x.1 ≠ i ∧ x.2.1 ≠ t := by
    rcases hx with hx | hx <;> simp only [ents, List.mem_map] at hx <;> obtain ⟨y, hy, rfl⟩ := hx
    · exact ⟨fun q => n1 (by rw [← q]; exact List.mem_map_of_mem hy), fun q => m1 (by rw [← q]; exact List.mem_map_of_mem hy)⟩
    · exact ⟨fun q => n2 (by rw [← q]; exact List.mem_map_of_mem hy), fun q => m2 (by rw [← q]; exact List.mem_map_of_mem hy)⟩
  simp [hh.1, hh.2]
theorem slot_on {a a' : Act} {b : Nat → Bool} {e : Nat → Value} {j : Nat} {t : Tmp} {L : List (Nat × Tmp)} (ha : a' = putSel a b (ents e L)) (hb : b j = true) (hc : (L.contains (j, t) && decide (L.map Prod.snd).Nodup && Nat.ble (t + 1) a.tmps.size) = true) : a'.tmps[t]? = some (e j) := by
  simp only [Bool.and_eq_true, List.contains_iff_mem, decide_eq_true_eq] at hc
  obtain ⟨⟨hm, h2⟩, ht⟩ := hc
  subst ha
  obtain ⟨L1, L2, rfl⟩ := List.append_of_mem hm
  simp only [List.map_append, List.map_cons, List.nodup_append, List.nodup_cons] at h2
  have m2 : t ∉ L2.map Prod.snd := h2.2.1.1
  refine putSel_on (e := (j, t, e j)) L1.length (by simp [ents]) ?_ hb ht
  rw [List.all_eq_true]
  intro x hx
  have hx' : x ∈ ents e L2 := by
    have : (ents e (L1 ++ (j, t) :: L2)).drop (L1.length + 1) = ents e L2 := by
      simp [ents, List.drop_append, List.drop_of_length_le]
    rw [this] at hx
    exact hx
  simp only [ents, List.mem_map] at hx'
  obtain ⟨y, hy, rfl⟩ := hx'
  have : y.2 ≠ t := fun q => m2 (by rw [← q]; exact List.mem_map_of_mem hy)
  simp [this]
theorem slot_off {a a' : Act} {b : Nat → Bool} {e : Nat → Value} {t : Tmp} {L : List (Nat × Tmp)} (ha : a' = putSel a b (ents e L)) (hc : (L.all fun x => !(x.2 == t)) = true) : a'.tmps[t]? = a.tmps[t]? := by
  subst ha
  refine putSel_off ?_
  rw [List.all_eq_true] at hc ⊢
  intro x hx
  simp only [ents, List.mem_map] at hx
  obtain ⟨y, hy, rfl⟩ := hx
  exact hc y hy
section
variable {P : Program} {ops : Array Oper} {Q : Exit → Act → World → Prop} {md : Region.Mode} {T : Bool × List (List Nat × List Nat)} {B : List Nat}
/-- Each operation of O has its entry in L, or no destination; numbers and slots each once. -/
def chkL (ops : Array Oper) (O : List Nat) (L : List (Nat × Tmp)) : Bool :=
  O.all (fun i => match ops[i]? with
    | some o => match o.dst with
      | some t => L.contains (i, t)
      | none => L.all (fun x => !(x.1 == i))
    | none => false) && decide (L.map Prod.fst).Nodup && decide (L.map Prod.snd).Nodup
/-- The step of operation i. Φ j v w: what is known of the value v of number j in the world w; G: of the world alone, by what is listed; St: how the world goes on. -/
def EStep (P : Program) (ops : Array Oper) (Q : Exit → Act → World → Prop) (B : List Nat) (O : List Nat) (L : List (Nat × Tmp)) (a : Act) (Φ : Nat → Value → World → Prop) (G : (Nat → Bool) → World → Prop) (St : World → World → Prop) (i : Nat) : Prop :=
  ∀ (b : Nat → Bool) (e : Nat → Value) (a' : Act) (w : World), a' = putSel a b (ents e L) → G b w → (∀ j, b j = true → O.contains j = true → Φ j (e j) w) → b i = false → (∀ j, (O.contains j && (B.getD i 0).testBit j) = true → b j = true) → (∀ d, (O.contains d && (B.getD d 0).testBit i) = true → b d = false) →
    ∃ oi, ops[i]? = some oi ∧ ∀ K : Act → World → Prop, Shut (∀ v w', Φ i v w' → St w w' → G (up b i) w' → K (a'.put oi.dst v) w') → if Region.wanted oi (yielded ops a'.tmps) = true then Oper.wp P oi a' w K Q else K (a'.put oi.dst undef) w
theorem env_ {l : Array Bool} {fuel : Nat} {a : Act} {w : World} (O : List Nat) (L : List (Nat × Tmp)) (Φ : Nat → Value → World → Prop) (G : (Nat → Bool) → World → Prop) (St : World → World → Prop) (hT : rtab md ops = T) (hw : waitsOk T.2 B = true) (hk : baseOk T.2 O = true)
    (hl : (lof T.2.length O (fun _ => false) == l.toList && O.length == fuel) = true) (hL : chkL ops O L = true) (hst : ∀ i v w w', Φ i v w → St w w' → Φ i v w') (h0 : G (fun _ => false) w) (hs : ∀ i ∈ O, EStep P ops Q B O L a Φ G St i)
    (hend : ∀ e b w, (∀ j, O.contains j = true → b j = true) → (∀ j, O.contains j = true → Φ j (e j) w) → G b w → Q .normal (putSel a b (ents e L)) w) : wpAnyLast P md ops Q (fun _ => True) [] fuel l a w := by
  simp only [chkL, Bool.and_eq_true, decide_eq_true_eq] at hL
  obtain ⟨⟨hL0, hL1⟩, hL2⟩ := hL
  refine inv_ O (fun b a' w' => ∃ e, a' = putSel a b (ents e L) ∧ G b w' ∧ ∀ j, b j = true → O.contains j = true → Φ j (e j) w') hT hw hk hl ⟨fun _ => undef, ?_, h0, fun _ h => by cases h⟩ (fun i hi b a' w' ⟨e, ha, hG, hF⟩ hb hon hoff => ?_) (fun b a' w' hall ⟨e, ha, hG, hF⟩ => ?_)
  · have : ∀ (M : List (Nat × Tmp × Value)), putSel a (fun _ => false) M = a := by
      intro M
      induction M with
      | nil => rfl
      | cons x r ih => unfold putSel; rw [if_neg (by decide)]; exact ih
    exact (this _).symm
  · obtain ⟨oi, hoi, h⟩ := hs i hi b e a' w' ha hG hF hb hon hoff
    refine ⟨oi, hoi, fun K hK => h K (fun v w'' hv hs' hG' => hK _ _ ⟨upv e i v, ?_, hG', fun j hj hjO => ?_⟩)⟩
    · have h1 := List.all_eq_true.1 hL0 i hi
      rw [hoi] at h1
      simp only at h1
      subst ha
      cases hd : oi.dst with
      | some t =>
        rw [hd] at h1
        exact put_ents hb (List.contains_iff_mem.1 h1) hL1 hL2
      | none =>
        rw [hd] at h1
        have hni : i ∉ L.map Prod.fst := by
          intro hm
          obtain ⟨x, hx, hxi⟩ := List.mem_map.1 hm
          have := List.all_eq_true.1 h1 x hx
          simp [hxi] at this
        rw [ents_upv hni]
        refine putSel_none ?_
        rw [List.all_eq_true]
        intro x hx
        simp only [ents, List.mem_map] at hx
        obtain ⟨y, hy, rfl⟩ := hx
        exact List.all_eq_true.1 h1 y hy
    · by_cases hji : j = i
      · subst hji
        rw [upv_self]
        exact hv
      · rw [upv_ne e v hji]
        rw [up_ne hji] at hj
        exact hst j _ _ _ (hF j hj hjO) hs'
  · rw [ha]
    exact hend e b w' hall (fun j hj => hF j (hall j hj) hj) hG
/-- A step that yields a value and leaves the world. -/
theorem EStep.pure {O : List Nat} {L : List (Nat × Tmp)} {a : Act} {Φ : Nat → Value → World → Prop} {G : (Nat → Bool) → World → Prop} {St : World → World → Prop} {i : Nat} (hr : ∀ w, St w w)
    (h : ∀ (b : Nat → Bool) (e : Nat → Value) (a' : Act) (w : World), a' = putSel a b (ents e L) → G b w → (∀ j, (O.contains j && (B.getD i 0).testBit j) = true → b j = true ∧ Φ j (e j) w) →
      ∃ oi v, ops[i]? = some oi ∧ oi.guard = none ∧ (execOp a'.eval oi).run P w = .ok (.value v) w ∧ Φ i v w ∧ G (up b i) w) : EStep P ops Q B O L a Φ G St i := by
  intro b e a' w ha hG hF hb hon hoff
  obtain ⟨oi, v, h1, h2, h3, h4, h5⟩ := h b e a' w ha hG (fun j hj => ⟨hon j hj, hF j (hon j hj) (by rw [Bool.and_eq_true] at hj; exact hj.1)⟩)
  exact ⟨oi, h1, fun K hK => value_ (by unfold Region.wanted; rw [h2]) rfl h3 (hK.out v w h4 (hr w) h5)⟩
/-- A step that yields a value and makes or turns memory. -/
theorem EStep.step {O : List Nat} {L : List (Nat × Tmp)} {a : Act} {Φ : Nat → Value → World → Prop} {G : (Nat → Bool) → World → Prop} {St : World → World → Prop} {i : Nat}
    (h : ∀ (b : Nat → Bool) (e : Nat → Value) (a' : Act) (w : World), a' = putSel a b (ents e L) → G b w → (∀ j, (O.contains j && (B.getD i 0).testBit j) = true → b j = true ∧ Φ j (e j) w) → (∀ d, (O.contains d && (B.getD d 0).testBit i) = true → b d = false) → b i = false →
      ∃ oi v w', ops[i]? = some oi ∧ oi.guard = none ∧ (execOp a'.eval oi).run P w = .ok (.value v) w' ∧ Φ i v w' ∧ St w w' ∧ G (up b i) w') : EStep P ops Q B O L a Φ G St i := by
  intro b e a' w ha hG hF hb hon hoff
  obtain ⟨oi, v, w', h1, h2, h3, h4, h5, h6⟩ := h b e a' w ha hG (fun j hj => ⟨hon j hj, hF j (hon j hj) (by rw [Bool.and_eq_true] at hj; exact hj.1)⟩) hoff hb
  exact ⟨oi, h1, fun K hK => value_ (by unfold Region.wanted; rw [h2]) rfl h3 (hK.out v w' h4 h5 h6)⟩
/-- A call of a function. -/
theorem EStep.call {O : List Nat} {L : List (Nat × Tmp)} {a : Act} {Φ : Nat → Value → World → Prop} {G : (Nat → Bool) → World → Prop} {St : World → World → Prop} {i : Nat} {f : FuncId} {fn : Func} {as : Array Operand} {ts : Array TypeId} (hf : P.funcs[f]? = some fn) (hname : (fn.name == "runtime.NumGoroutine") = false) (hbd : fn.body.isSome = true)
    (hoi : ∃ oi, ops[i]? = some oi ∧ oi.guard = none ∧ oi.op = .call { callee := .value (.func f), args := as, argTypes := ts })
    (h : ∀ (b : Nat → Bool) (e : Nat → Value) (a' : Act) (w : World), a' = putSel a b (ents e L) → G b w → (∀ j, (O.contains j && (B.getD i 0).testBit j) = true → b j = true ∧ Φ j (e j) w) → (∀ d, (O.contains d && (B.getD d 0).testBit i) = true → b d = false) → b i = false →
      ∃ args, as.map a'.eval = args ∧ Calls P f args w fun e w' => ∃ v, e = .returned v ∧ Φ i v w' ∧ St w w' ∧ G (up b i) w') : EStep P ops Q B O L a Φ G St i := by
  intro b e a' w ha hG hF hb hon hoff
  obtain ⟨oi, h1, h2, h3⟩ := hoi
  obtain ⟨args, h4, h5⟩ := h b e a' w ha hG (fun j hj => ⟨hon j hj, hF j (hon j hj) (by rw [Bool.and_eq_true] at hj; exact hj.1)⟩) hoff hb
  exact ⟨oi, h1, fun K hK => goes_ hf hname hbd args (by unfold Region.wanted; rw [h2]) rfl h3 h4 (h5.mono fun e w' ⟨v, he, k1, k2, k3⟩ => ⟨v, he, hK.out v w' k1 k2 k3⟩)⟩
/-- A slot that was filled by number j, whose value is known. -/
theorem slotv {a a' : Act} {b : Nat → Bool} {e : Nat → Value} {j : Nat} {t : Tmp} {L : List (Nat × Tmp)} {v : Value} (ha : a' = putSel a b (ents e L)) (hb : b j = true) (hc : (L.contains (j, t) && decide (L.map Prod.snd).Nodup && Nat.ble (t + 1) a.tmps.size) = true) (hv : e j = v) : a'.tmps[t]? = some v := hv ▸ slot_on ha hb hc
/-- A region of open order, from its beginning to its end. -/
theorem region_env {id : Nat} {a : Act} {w : World} {T : Bool × List (List Nat × List Nat)} {B : List Nat} (O : List Nat) (L : List (Nat × Tmp)) (Φ : Nat → Value → World → Prop) (G : (Nat → Bool) → World → Prop) (St : World → World → Prop) (hm : P.follows .mixedOrders = true) (hT : rtab .any ops = T) (hw : waitsOk T.2 B = true) (hk : baseOk T.2 O = true)
    (hl : (lof T.2.length O (fun _ => false) == List.replicate T.2.length false && O.length == T.2.length) = true) (hL : chkL ops O L = true) (hst : ∀ i v w w', Φ i v w → St w w' → Φ i v w') (h0 : G (fun _ => false) w.drew) (hs : ∀ i ∈ O, EStep P ops Q B O L a Φ G St i)
    (hend : ∀ e b w, (∀ j, O.contains j = true → b j = true) → (∀ j, O.contains j = true → Φ j (e j) w) → G b w → Q .normal (putSel a b (ents e L)) w) : (Code.region id ops true).wp P Q a w := by
  have hn : ops.size = T.2.length := by rw [← hT]; simp [rtab]
  refine start_ (S := fun _ => True) (ds := []) (Array.replicate T.2.length false) hm hn rfl trivial (fun _ => ?_)
  refine env_ O L Φ G St hT hw hk ?_ hL hst h0 hs hend
  simpa using hl
/-- With all listed every entry's slot is filled. -/
theorem putSel_all {a : Act} {b : Nat → Bool} {e : Nat → Value} : ∀ {L : List (Nat × Tmp)}, (∀ x ∈ L, b x.1 = true) → putSel a b (ents e L) = L.foldl (fun a x => a.put (some x.2) (e x.1)) a := by
  intro L
  induction L generalizing a with
  | nil => intro _; rfl
  | cons x r ih =>
    intro h
    show putSel (if b x.1 = true then _ else _) b (ents e r) = _
    rw [if_pos (h x List.mem_cons_self)]
    exact ih (fun y hy => h y (List.mem_cons_of_mem _ hy))
/-- Number 'last' waits for all others of O. -/
def lastOk (B : List Nat) (O : List Nat) (last : Nat) : Bool := O.contains last && O.all fun j => j == last || (B.getD last 0).testBit j
/-- A region whose last operation (a store, mostly) waits for all others: what it leaves is told by itself (Fin). -/
theorem region_envL {id : Nat} {a : Act} {w : World} {T : Bool × List (List Nat × List Nat)} {B : List Nat} (O : List Nat) (L : List (Nat × Tmp)) (last : Nat) (Φ : Nat → Value → World → Prop) (G : (Nat → Bool) → World → Prop) (St : World → World → Prop) (Fin : (Nat → Value) → World → Prop) (hm : P.follows .mixedOrders = true) (hT : rtab .any ops = T) (hw : waitsOk T.2 B = true) (hk : baseOk T.2 O = true)
    (hl : (lof T.2.length O (fun _ => false) == List.replicate T.2.length false && O.length == T.2.length) = true) (hL : chkL ops O L = true) (hlast : lastOk B O last = true) (hst : ∀ i v w w', Φ i v w → St w w' → Φ i v w') (h0 : G (fun _ => false) w.drew) (hs : ∀ i ∈ O, i ≠ last → EStep P ops Q B O L a Φ G St i)
    (hlst : ∀ (b : Nat → Bool) (e : Nat → Value) (a' : Act) (w : World), a' = putSel a b (ents e L) → G b w → (∀ j, O.contains j = true → j ≠ last → b j = true ∧ Φ j (e j) w) → b last = false →
      ∃ oi, ops[last]? = some oi ∧ ∀ K : Act → World → Prop, Shut (∀ v w', Fin (upv e last v) w' → K (a'.put oi.dst v) w') → if Region.wanted oi (yielded ops a'.tmps) = true then Oper.wp P oi a' w K Q else K (a'.put oi.dst undef) w)
    (hend : ∀ e b w, (∀ j, O.contains j = true → b j = true) → Fin e w → Q .normal (putSel a b (ents e L)) w) : (Code.region id ops true).wp P Q a w := by
  have hn : ops.size = T.2.length := by rw [← hT]; simp [rtab]
  simp only [chkL, Bool.and_eq_true, decide_eq_true_eq] at hL
  obtain ⟨⟨hL0, hL1⟩, hL2⟩ := hL
  simp only [lastOk, Bool.and_eq_true] at hlast
  obtain ⟨hlO, hlB⟩ := hlast
  have hwait : ∀ j, O.contains j = true → j ≠ last → (B.getD last 0).testBit j = true := fun j hj hne => by
    have := List.all_eq_true.1 hlB j (List.contains_iff_mem.1 hj)
    simpa [hne] using this
  have put : ∀ {b : Nat → Bool} {e : Nat → Value} {a' : Act} {i : Nat} {oi : Oper} {v : Value}, i ∈ O → a' = putSel a b (ents e L) → b i = false → ops[i]? = some oi → a'.put oi.dst v = putSel a (up b i) (ents (upv e i v) L) := by
    intro b e a' i oi v hi ha hb hoi
    have h1 := List.all_eq_true.1 hL0 i hi
    rw [hoi] at h1
    simp only at h1
    subst ha
    cases hd : oi.dst with
    | some t =>
      rw [hd] at h1
      exact put_ents hb (List.contains_iff_mem.1 h1) hL1 hL2
    | none =>
      rw [hd] at h1
      have hni : i ∉ L.map Prod.fst := by
        intro hm
        obtain ⟨x, hx, hxi⟩ := List.mem_map.1 hm
        have := List.all_eq_true.1 h1 x hx
        simp [hxi] at this
      rw [ents_upv hni]
      refine putSel_none ?_
      rw [List.all_eq_true]
      intro x hx
      simp only [ents, List.mem_map] at hx
      obtain ⟨y, hy, rfl⟩ := hx
      exact List.all_eq_true.1 h1 y hy
  refine start_ (S := fun _ => True) (ds := []) (Array.replicate T.2.length false) hm hn rfl trivial (fun _ => ?_)
  refine inv_ O (fun b a' w' => ∃ e, a' = putSel a b (ents e L) ∧ (b last = true → Fin e w') ∧ (b last = false → G b w' ∧ ∀ j, b j = true → O.contains j = true → Φ j (e j) w')) hT hw hk (by simpa using hl) ⟨fun _ => undef, ?_, fun h => (by cases h), fun _ => ⟨h0, fun _ h => by cases h⟩⟩ (fun i hi b a' w' ⟨e, ha, hfin, hrest⟩ hb hon hoff => ?_) (fun b a' w' hall ⟨e, ha, hfin, _⟩ => ?_)
  · have : ∀ (M : List (Nat × Tmp × Value)), putSel a (fun _ => false) M = a := by
      intro M
      induction M with
      | nil => rfl
      | cons x r ih => unfold putSel; rw [if_neg (by decide)]; exact ih
    exact (this _).symm
  · by_cases hil : i = last
    · subst hil
      obtain ⟨hG, hF⟩ := hrest hb
      obtain ⟨oi, hoi, h⟩ := hlst b e a' w' ha hG (fun j hj hne => by
        have hbj := hon j (by rw [hj, hwait j hj hne]; rfl)
        exact ⟨hbj, hF j hbj hj⟩) hb
      exact ⟨oi, hoi, fun K hK => h K (fun v w'' hv => hK _ _ ⟨upv e i v, put hi ha hb hoi, fun _ => hv, fun h => (by rw [up_self] at h; cases h)⟩)⟩
    · have hbl : b last = false := hoff last (by rw [hlO, hwait i (List.contains_iff_mem.2 hi) hil]; rfl)
      obtain ⟨hG, hF⟩ := hrest hbl
      obtain ⟨oi, hoi, h⟩ := hs i hi hil b e a' w' ha hG hF hb hon hoff
      refine ⟨oi, hoi, fun K hK => h K (fun v w'' hv hs' hG' => hK _ _ ⟨upv e i v, put hi ha hb hoi, fun h => (by rw [up_ne (Ne.symm hil), hbl] at h; cases h), fun _ => ⟨hG', fun j hj hjO => ?_⟩⟩)⟩
      by_cases hji : j = i
      · subst hji
        rw [upv_self]
        exact hv
      · rw [upv_ne e v hji]
        rw [up_ne hji] at hj
        exact hst j _ _ _ (hF j hj hjO) hs'
  · rw [ha]
    exact hend e b w' hall (hfin (hall last hlO))
/-- The step of operation i, with what it leaves of each listed value told by itself. -/
def EStepF (P : Program) (ops : Array Oper) (Q : Exit → Act → World → Prop) (B : List Nat) (O : List Nat) (L : List (Nat × Tmp)) (a : Act) (Φ : Nat → Value → World → Prop) (G : (Nat → Bool) → World → Prop) (i : Nat) : Prop :=
  ∀ (b : Nat → Bool) (e : Nat → Value) (a' : Act) (w : World), a' = putSel a b (ents e L) → G b w → (∀ j, b j = true → O.contains j = true → Φ j (e j) w) → b i = false → (∀ j, (O.contains j && (B.getD i 0).testBit j) = true → b j = true) → (∀ d, (O.contains d && (B.getD d 0).testBit i) = true → b d = false) →
    ∃ oi, ops[i]? = some oi ∧ ∀ K : Act → World → Prop, Shut (∀ v w', Φ i v w' → (∀ j, b j = true → O.contains j = true → Φ j (e j) w → Φ j (e j) w') → G (up b i) w' → K (a'.put oi.dst v) w') → if Region.wanted oi (yielded ops a'.tmps) = true then Oper.wp P oi a' w K Q else K (a'.put oi.dst undef) w
/-- region_envL by such steps. -/
theorem region_envF {id : Nat} {a : Act} {w : World} {T : Bool × List (List Nat × List Nat)} {B : List Nat} (O : List Nat) (L : List (Nat × Tmp)) (last : Nat) (Φ : Nat → Value → World → Prop) (G : (Nat → Bool) → World → Prop) (Fin : (Nat → Value) → World → Prop) (hm : P.follows .mixedOrders = true) (hT : rtab .any ops = T) (hw : waitsOk T.2 B = true) (hk : baseOk T.2 O = true)
    (hl : (lof T.2.length O (fun _ => false) == List.replicate T.2.length false && O.length == T.2.length) = true) (hL : chkL ops O L = true) (hlast : lastOk B O last = true) (h0 : G (fun _ => false) w.drew) (hs : ∀ i ∈ O, i ≠ last → EStepF P ops Q B O L a Φ G i)
    (hlst : ∀ (b : Nat → Bool) (e : Nat → Value) (a' : Act) (w : World), a' = putSel a b (ents e L) → G b w → (∀ j, O.contains j = true → j ≠ last → b j = true ∧ Φ j (e j) w) → b last = false →
      ∃ oi, ops[last]? = some oi ∧ ∀ K : Act → World → Prop, Shut (∀ v w', Fin (upv e last v) w' → K (a'.put oi.dst v) w') → if Region.wanted oi (yielded ops a'.tmps) = true then Oper.wp P oi a' w K Q else K (a'.put oi.dst undef) w)
    (hend : ∀ e b w, (∀ j, O.contains j = true → b j = true) → Fin e w → Q .normal (putSel a b (ents e L)) w) : (Code.region id ops true).wp P Q a w := by
  have hn : ops.size = T.2.length := by rw [← hT]; simp [rtab]
  simp only [chkL, Bool.and_eq_true, decide_eq_true_eq] at hL
  obtain ⟨⟨hL0, hL1⟩, hL2⟩ := hL
  simp only [lastOk, Bool.and_eq_true] at hlast
  obtain ⟨hlO, hlB⟩ := hlast
  have hwait : ∀ j, O.contains j = true → j ≠ last → (B.getD last 0).testBit j = true := fun j hj hne => by
    have := List.all_eq_true.1 hlB j (List.contains_iff_mem.1 hj)
    simpa [hne] using this
  have put : ∀ {b : Nat → Bool} {e : Nat → Value} {a' : Act} {i : Nat} {oi : Oper} {v : Value}, i ∈ O → a' = putSel a b (ents e L) → b i = false → ops[i]? = some oi → a'.put oi.dst v = putSel a (up b i) (ents (upv e i v) L) := by
    intro b e a' i oi v hi ha hb hoi
    have h1 := List.all_eq_true.1 hL0 i hi
    rw [hoi] at h1
    simp only at h1
    subst ha
    cases hd : oi.dst with
    | some t =>
      rw [hd] at h1
      exact put_ents hb (List.contains_iff_mem.1 h1) hL1 hL2
    | none =>
      rw [hd] at h1
      have hni : i ∉ L.map Prod.fst := by
        intro hm
        obtain ⟨x, hx, hxi⟩ := List.mem_map.1 hm
        have := List.all_eq_true.1 h1 x hx
        simp [hxi] at this
      rw [ents_upv hni]
      refine putSel_none ?_
      rw [List.all_eq_true]
      intro x hx
      simp only [ents, List.mem_map] at hx
      obtain ⟨y, hy, rfl⟩ := hx
      exact List.all_eq_true.1 h1 y hy
  refine start_ (S := fun _ => True) (ds := []) (Array.replicate T.2.length false) hm hn rfl trivial (fun _ => ?_)
  refine inv_ O (fun b a' w' => ∃ e, a' = putSel a b (ents e L) ∧ (b last = true → Fin e w') ∧ (b last = false → G b w' ∧ ∀ j, b j = true → O.contains j = true → Φ j (e j) w')) hT hw hk (by simpa using hl) ⟨fun _ => undef, ?_, fun h => (by cases h), fun _ => ⟨h0, fun _ h => by cases h⟩⟩ (fun i hi b a' w' ⟨e, ha, hfin, hrest⟩ hb hon hoff => ?_) (fun b a' w' hall ⟨e, ha, hfin, _⟩ => ?_)
  · have : ∀ (M : List (Nat × Tmp × Value)), putSel a (fun _ => false) M = a := by
      intro M
      induction M with
      | nil => rfl
      | cons x r ih => unfold putSel; rw [if_neg (by decide)]; exact ih
    exact (this _).symm
  · by_cases hil : i = last
    · subst hil
      obtain ⟨hG, hF⟩ := hrest hb
      obtain ⟨oi, hoi, h⟩ := hlst b e a' w' ha hG (fun j hj hne => by
        have hbj := hon j (by rw [hj, hwait j hj hne]; rfl)
        exact ⟨hbj, hF j hbj hj⟩) hb
      exact ⟨oi, hoi, fun K hK => h K (fun v w'' hv => hK _ _ ⟨upv e i v, put hi ha hb hoi, fun _ => hv, fun h => (by rw [up_self] at h; cases h)⟩)⟩
    · have hbl : b last = false := hoff last (by rw [hlO, hwait i (List.contains_iff_mem.2 hi) hil]; rfl)
      obtain ⟨hG, hF⟩ := hrest hbl
      obtain ⟨oi, hoi, h⟩ := hs i hi hil b e a' w' ha hG hF hb hon hoff
      refine ⟨oi, hoi, fun K hK => h K (fun v w'' hv hs' hG' => hK _ _ ⟨upv e i v, put hi ha hb hoi, fun h => (by rw [up_ne (Ne.symm hil), hbl] at h; cases h), fun _ => ⟨hG', fun j hj hjO => ?_⟩⟩)⟩
      by_cases hji : j = i
      · subst hji
        rw [upv_self]
        exact hv
      · rw [upv_ne e v hji]
        rw [up_ne hji] at hj
        exact hs' j hj hjO (hF j hj hjO)
  · rw [ha]
    exact hend e b w' hall (hfin (hall last hlO))
section
variable {O : List Nat} {L : List (Nat × Tmp)} {a : Act} {Φ : Nat → Value → World → Prop} {G : (Nat → Bool) → World → Prop} {St : World → World → Prop} {i : Nat}
theorem EStepF.pure (h : ∀ (b : Nat → Bool) (e : Nat → Value) (a' : Act) (w : World), a' = putSel a b (ents e L) → G b w → (∀ j, (O.contains j && (B.getD i 0).testBit j) = true → b j = true ∧ Φ j (e j) w) →
      ∃ oi v, ops[i]? = some oi ∧ oi.guard = none ∧ (execOp a'.eval oi).run P w = .ok (.value v) w ∧ Φ i v w ∧ G (up b i) w) : EStepF P ops Q B O L a Φ G i := by
  intro b e a' w ha hG hF hb hon hoff
  obtain ⟨oi, v, h1, h2, h3, h4, h5⟩ := h b e a' w ha hG (fun j hj => ⟨hon j hj, hF j (hon j hj) (by rw [Bool.and_eq_true] at hj; exact hj.1)⟩)
  exact ⟨oi, h1, fun K hK => value_ (by unfold Region.wanted; rw [h2]) rfl h3 (hK.out v w h4 (fun _ _ _ h => h) h5)⟩
/-- The frame of a step, by St: those of X wait for it (or are it). -/
theorem frame_of (X : List Nat) (hst : ∀ j v w w', j ∉ X → Φ j v w → St w w' → Φ j v w') (hX : (X.all fun x => x == i || (O.contains x && (B.getD x 0).testBit i)) = true) {b : Nat → Bool} {e : Nat → Value} {w w' : World} (hb : b i = false) (hoff : ∀ d, (O.contains d && (B.getD d 0).testBit i) = true → b d = false) (hs : St w w') :
    ∀ j, b j = true → O.contains j = true → Φ j (e j) w → Φ j (e j) w' := fun j hj hjO hF => hst j _ w w' (fun hm => by
    have h1 := List.all_eq_true.1 hX j hm
    rw [Bool.or_eq_true, beq_iff_eq] at h1
    rcases h1 with rfl | h1
    · rw [hb] at hj; cases hj
    · rw [hoff j h1] at hj; cases hj) hF hs
theorem EStepF.step (X : List Nat) (hst : ∀ j v w w', j ∉ X → Φ j v w → St w w' → Φ j v w') (hX : (X.all fun x => x == i || (O.contains x && (B.getD x 0).testBit i)) = true)
    (h : ∀ (b : Nat → Bool) (e : Nat → Value) (a' : Act) (w : World), a' = putSel a b (ents e L) → G b w → (∀ j, (O.contains j && (B.getD i 0).testBit j) = true → b j = true ∧ Φ j (e j) w) → (∀ d, (O.contains d && (B.getD d 0).testBit i) = true → b d = false) → b i = false →
      ∃ oi v w', ops[i]? = some oi ∧ oi.guard = none ∧ (execOp a'.eval oi).run P w = .ok (.value v) w' ∧ Φ i v w' ∧ St w w' ∧ G (up b i) w') : EStepF P ops Q B O L a Φ G i := by
  intro b e a' w ha hG hF hb hon hoff
  obtain ⟨oi, v, w', h1, h2, h3, h4, h5, h6⟩ := h b e a' w ha hG (fun j hj => ⟨hon j hj, hF j (hon j hj) (by rw [Bool.and_eq_true] at hj; exact hj.1)⟩) hoff hb
  exact ⟨oi, h1, fun K hK => value_ (by unfold Region.wanted; rw [h2]) rfl h3 (hK.out v w' h4 (frame_of X hst hX hb hoff h5) h6)⟩
theorem EStepF.stepO (X : List Nat) (hst : ∀ j v w w', j ∉ X → Φ j v w → St w w' → Φ j v w') (hX : (X.all fun x => x == i || (O.contains x && (B.getD x 0).testBit i)) = true) (op : Op) (hop : ∃ oi, ops[i]? = some oi ∧ oi.guard = none ∧ oi.op = op)
    (h : ∀ (b : Nat → Bool) (e : Nat → Value) (a' : Act) (w : World) (oi : Oper), oi.op = op → a' = putSel a b (ents e L) → G b w → (∀ j, (O.contains j && (B.getD i 0).testBit j) = true → b j = true ∧ Φ j (e j) w) → (∀ d, (O.contains d && (B.getD d 0).testBit i) = true → b d = false) → b i = false →
      ∃ v w', (execOp a'.eval oi).run P w = .ok (.value v) w' ∧ Φ i v w' ∧ St w w' ∧ G (up b i) w') : EStepF P ops Q B O L a Φ G i := by
  intro b e a' w ha hG hF hb hon hoff
  obtain ⟨oi, h1, h2, h0⟩ := hop
  obtain ⟨v, w', h3, h4, h5, h6⟩ := h b e a' w oi h0 ha hG (fun j hj => ⟨hon j hj, hF j (hon j hj) (by rw [Bool.and_eq_true] at hj; exact hj.1)⟩) hoff hb
  exact ⟨oi, h1, fun K hK => value_ (by unfold Region.wanted; rw [h2]) rfl h3 (hK.out v w' h4 (frame_of X hst hX hb hoff h5) h6)⟩
theorem EStepF.call (X : List Nat) (hst : ∀ j v w w', j ∉ X → Φ j v w → St w w' → Φ j v w') (hX : (X.all fun x => x == i || (O.contains x && (B.getD x 0).testBit i)) = true)
    {f : FuncId} {fn : Func} {as : Array Operand} {ts : Array TypeId} (hf : P.funcs[f]? = some fn) (hname : (fn.name == "runtime.NumGoroutine") = false) (hbd : fn.body.isSome = true)
    (hoi : ∃ oi, ops[i]? = some oi ∧ oi.guard = none ∧ oi.op = .call { callee := .value (.func f), args := as, argTypes := ts })
    (h : ∀ (b : Nat → Bool) (e : Nat → Value) (a' : Act) (w : World), a' = putSel a b (ents e L) → G b w → (∀ j, (O.contains j && (B.getD i 0).testBit j) = true → b j = true ∧ Φ j (e j) w) → (∀ d, (O.contains d && (B.getD d 0).testBit i) = true → b d = false) → b i = false →
      ∃ args, as.map a'.eval = args ∧ Calls P f args w fun e w' => ∃ v, e = .returned v ∧ Φ i v w' ∧ St w w' ∧ G (up b i) w') : EStepF P ops Q B O L a Φ G i := by
  intro b e a' w ha hG hF hb hon hoff
  obtain ⟨oi, h1, h2, h3⟩ := hoi
  obtain ⟨args, h4, h5⟩ := h b e a' w ha hG (fun j hj => ⟨hon j hj, hF j (hon j hj) (by rw [Bool.and_eq_true] at hj; exact hj.1)⟩) hoff hb
  exact ⟨oi, h1, fun K hK => goes_ hf hname hbd args (by unfold Region.wanted; rw [h2]) rfl h3 h4 (h5.mono fun _ w' ⟨v, he, k1, k2, k3⟩ => ⟨v, he, hK.out v w' k1 (frame_of X hst hX hb hoff k2) k3⟩)⟩
end
theorem alln_nil {p : Nat → Prop} {last : Nat} : ∀ i ∈ ([] : List Nat), i ≠ last → p i := fun _ h => by cases h
theorem alln_cons {p : Nat → Prop} {i last : Nat} {l : List Nat} (h : p i) (hs : ∀ j ∈ l, j ≠ last → p j) : ∀ j ∈ i :: l, j ≠ last → p j := fun j hj hne => by
  rcases List.mem_cons.1 hj with rfl | hj
  · exact h
  · exact hs j hj hne
theorem alln_last {p : Nat → Prop} {last : Nat} : ∀ j ∈ [last], j ≠ last → p j := fun j hj hne => absurd (List.mem_singleton.1 hj) hne
theorem all_nil {p : Nat → Prop} : ∀ i ∈ ([] : List Nat), p i := fun _ h => by cases h
theorem all_cons {p : Nat → Prop} {i : Nat} {l : List Nat} (h : p i) (hs : ∀ j ∈ l, p j) : ∀ j ∈ i :: l, p j := fun j hj => by
  rcases List.mem_cons.1 hj with rfl | hj
  · exact h
  · exact hs j hj
end
/-- What is known of values: each is known outright (val), or up to the number C of a block that the region made (F j: how the value stands; o j: what the block holds). -/
def PhiB (F : Nat → Option (Nat → Value)) (o : Nat → Obj) (val : Nat → Value) (base : Nat) : Nat → Value → World → Prop := fun j v W => match F j with
  | some f => ∃ C, v = f C ∧ base ≤ C ∧ W.heap[C]? = some (o j)
  | none => v = val j
theorem PhiB.keep {F : Nat → Option (Nat → Value)} {o : Nat → Obj} {val : Nat → Value} {base g : Nat} (hg : g < base) (i : Nat) (v : Value) (W W' : World) (h : PhiB F o val base i v W) (hk : KeepBut W W' g none) : PhiB F o val base i v W' := by
  unfold PhiB at h ⊢
  cases hF : F i with
  | none => rw [hF] at h; exact h
  | some f =>
    rw [hF] at h
    obtain ⟨C, h1, h2, h3⟩ := h
    exact ⟨C, h1, h2, hk.blk h3 (by omega) (by simp)⟩
/-- The same beside a row that the region may turn. -/
theorem PhiB.keepR {F : Nat → Option (Nat → Value)} {o : Nat → Obj} {val : Nat → Value} {base g : Nat} {row : Option Nat} (hg : g < base) (hr : ∀ k, row = some k → k < base) (i : Nat) (v : Value) (W W' : World) (h : PhiB F o val base i v W) (hk : KeepBut W W' g row) : PhiB F o val base i v W' := by
  unfold PhiB at h ⊢
  cases hF : F i with
  | none => rw [hF] at h; exact h
  | some f =>
    rw [hF] at h
    obtain ⟨C, h1, h2, h3⟩ := h
    exact ⟨C, h1, h2, hk.blk h3 (by omega) (fun e => by have := hr C e.symm; omega)⟩
end Go.Proofs.YtaihfkjfbjcmhabDoor.Reg
