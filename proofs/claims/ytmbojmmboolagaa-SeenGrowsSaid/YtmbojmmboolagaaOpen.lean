/- How data that came in are opened: a reading of a type is a value of the print's kinds, with the bounds that the row's weights give. -/
import Derived.Test.YtmbojmmboolagaaWWords
import Derived.SizedLaws
import Derived.ChangeArms
import Derived.DataReads
namespace Go.Proofs.Ytmbojmmboolagaa.Open
open Go.RowKit Go.Proofs.YtmbojmmboolagaaW.PrintWords
set_option linter.unusedVariables false

theorem add_add (a : Addr) (m j : Nat) : (a.add m).add j = a.add (m + j) := by
  unfold Addr.add
  by_cases hm : m = 0 <;> by_cases hj : j = 0 <;> simp [hm, hj, Nat.add_assoc]

/-- Whatever reads as data of type t, with rounds up to n and all its weights within the reach, is a value of the kind k that meets G. -/
def Opens {α : Type} (n : Nat) (P : Program) (t : TypeId) (k : Kd α) (G : α → Prop) : Prop :=
  ∀ (H : Type) (enc : TypeId × Value → H) (w : World) (sp : Nat → Bool) (held : Bool) (fuel : Nat) (cs : List Value) (x : DataW H × List MemPlace), fuel ≤ n →
    DataW.trod enc P w 0 sp held fuel t cs = some x → (∀ b ∈ x.1.weights P t, b ≤ reachBytes) → ∃ v, k.K w v cs ∧ G v

theorem Opens.imp {α : Type} {n : Nat} {P : Program} {t : TypeId} {k : Kd α} {G G' : α → Prop} (h : Opens n P t k G) (hg : ∀ v, G v → G' v) : Opens n P t k G' := by
  intro H enc w sp held fuel cs x hf ht hw
  obtain ⟨v, hk, hv⟩ := h H enc w sp held fuel cs x hf ht hw
  exact ⟨v, hk, hg v hv⟩
theorem Opens.le {α : Type} {n m : Nat} {P : Program} {t : TypeId} {k : Kd α} {G : α → Prop} (h : Opens n P t k G) (hm : m ≤ n) : Opens m P t k G :=
  fun H enc w sp held fuel cs x hf => h H enc w sp held fuel cs x (by omega)
theorem Opens.zero {α : Type} {P : Program} {t : TypeId} {k : Kd α} {G : α → Prop} : Opens 0 P t k G := by
  intro H enc w sp held fuel cs x hf ht hw
  obtain rfl : fuel = 0 := by omega
  simp [DataW.trod] at ht

theorem opens_int {n : Nat} {P : Program} {t : TypeId} {k : IntKind} (hu : P.underlying t = some (.int k)) : Opens n P t (Kd.int k) (fun v => (Lit.int k v).wf = true) := by
  intro H enc w sp held fuel cs x hf ht hw
  obtain ⟨m, rfl, rfl, h⟩ := DataW.trod_int hu ht
  exact ⟨m, rfl, h⟩
theorem opens_bool {n : Nat} {P : Program} {t : TypeId} (hu : P.underlying t = some .bool) : Opens n P t Kd.bool (fun _ => True) := by
  intro H enc w sp held fuel cs x hf ht hw
  obtain ⟨m, rfl, rfl⟩ := DataW.trod_bool hu ht
  exact ⟨m, rfl, trivial⟩
theorem opens_string {n : Nat} {P : Program} {t : TypeId} (hu : P.underlying t = some .string) : Opens n P t Kd.string (fun s => s.size ≤ 140737488351232) := by
  intro H enc w sp held fuel cs x hf ht hw
  obtain ⟨s, rfl, rfl, hm⟩ := DataW.trod_string hu ht
  refine ⟨s, rfl, ?_⟩
  have := hw s.data.toList.length (by simp [DataW.weights])
  simpa [reachBytes] using this

theorem weights_all_mem {H : Type} {P : Program} {e : TypeId} : ∀ {ds : List (DataW H)} {i : Nat} {d : DataW H}, ds[i]? = some d → ∀ b ∈ d.weights P e, b ∈ DataW.weightsAll P e ds
  | d0 :: ds, 0, d, h, b, hb => by
    simp only [List.getElem?_cons_zero, Option.some.injEq] at h
    subst h
    simp only [DataW.weightsAll, List.mem_append]
    exact Or.inl hb
  | d0 :: ds, i + 1, d, h, b, hb => by
    simp only [List.getElem?_cons_succ] at h
    simp only [DataW.weightsAll, List.mem_append]
    exact Or.inr (weights_all_mem h b hb)
  | [], _, _, h, _, _ => by simp at h

/-- A slice: its elements each, and its bytes. -/
theorem opens_slice {α : Type} {n : Nat} {P : Program} {t e : TypeId} {k : Kd α} {G : α → Prop} (hu : P.underlying t = some (.slice e)) (hc : P.cellsOf e = k.sz) (h : Opens n P e k G) :
    Opens (n + 1) P t (Kd.slice e k) (fun xs => xs.length * P.bytesOf e ≤ 140737488351232 ∧ xs.length ≤ maxLen ∧ ∀ v ∈ xs, G v) := by
  intro H enc w sp held fuel cs x hf ht hw
  rcases DataW.trod_slice hu ht with ⟨rfl, rfl⟩ | ⟨a, len, cap, elems, rest, m, rfl, rfl, rfl, _, hl, hm, hel, hall, _, _⟩
  · exact ⟨[], ⟨none, 0, rfl, Nat.le_refl _, rfl, by simp, fun h => absurd h (by simp)⟩, by simp, by simp, by simp⟩
  · have each : ∀ i, i < len → ∃ v, G v ∧ ∃ c, k.K w v c ∧ ∀ j u, c[j]? = some u → w.cell? (a.add (i * k.sz + j)) = some u := by
      intro i hi
      have h1 := hall i hi
      have hi' : i < elems.length := by omega
      rw [List.getElem?_eq_getElem hi'] at h1
      obtain ⟨c, hcs, htr⟩ := Option.bind_eq_some_iff.1 h1
      have hget : (elems.map (·.1))[i]? = some elems[i].1 := by simp [hi']
      obtain ⟨v, hk, hv⟩ := h H enc w sp held m c elems[i] (by omega) htr (fun b hb => hw b (by
        simp only [DataW.weights, hu, List.mem_cons, List.mem_append]
        exact Or.inr (Or.inl (weights_all_mem hget b hb))))
      refine ⟨v, hv, c, hk, fun j u hj => ?_⟩
      obtain ⟨_, hl2, hcell⟩ := World.cells?_some hcs
      have hjl : j < c.length := (List.getElem?_eq_some_iff.1 hj).1
      have := hcell j (by omega)
      rw [hj, add_add, hc] at this
      exact this
    have key : ∀ m, m ≤ len → ∃ vs : List α, vs.length = m ∧ (∀ v ∈ vs, G v) ∧ ∀ j p, vs[j]? = some p → ∃ c, k.K w p c ∧ ∀ i u, c[i]? = some u → w.cell? (a.add (j * k.sz + i)) = some u := by
      intro m
      induction m with
      | zero => exact fun _ => ⟨[], rfl, by simp, by simp⟩
      | succ m ih =>
        intro hle
        obtain ⟨vs, hvl, hvg, hvc⟩ := ih (by omega)
        obtain ⟨v, hg, c, hk, hcell⟩ := each m (by omega)
        refine ⟨vs ++ [v], by simp [hvl], fun y hy => ?_, fun j p hp => ?_⟩
        · rcases List.mem_append.1 hy with hy | hy
          · exact hvg y hy
          · rw [List.mem_singleton.1 hy]; exact hg
        · rcases Nat.lt_or_ge j vs.length with hj | hj
          · rw [List.getElem?_append_left hj] at hp
            exact hvc j p hp
          · have : j < (vs ++ [v]).length := (List.getElem?_eq_some_iff.1 hp).1
            have hjm : j = vs.length := by simp at this; omega
            subst hjm
            have hq : v = p := by simpa using hp
            subst hq
            rw [hvl]
            exact ⟨c, hk, hcell⟩
    obtain ⟨vs, hvl, hvg, hvc⟩ := key len (Nat.le_refl _)
    refine ⟨vs, ⟨some a, cap, by rw [hvl], by omega, hvl ▸ rfl, by rw [hvl]; simp only [maxLen] at hm; omega, fun _ => ⟨a, rfl, fun j p hp => ?_⟩⟩, ?_, by omega, hvg⟩
    · obtain ⟨c, hk, hcell⟩ := hvc j p hp
      exact ⟨c, k.K_len hk, hk, hcell⟩
    · have hw1 := hw ((elems.length + rest.length) * P.bytesOf e) (by simp [DataW.weights, hu])
      have hw2 : vs.length * P.bytesOf e ≤ (elems.length + rest.length) * P.bytesOf e := Nat.mul_le_mul_right _ (by omega)
      simp only [reachBytes] at hw1
      omega

/-- Fields in line, from the offset on. -/
def OpensF {α : Type} (n : Nat) (P : Program) (off : Nat) (fs : List Field) (k : Kd α) (G : α → Prop) : Prop :=
  ∀ (H : Type) (enc : TypeId × Value → H) (w : World) (sp : Nat → Bool) (held : Bool) (fuel : Nat) (cs : List Value) (xs : List (DataW H × List MemPlace)), fuel ≤ n → cs.length = off + k.sz → xs.length = fs.length →
    (∀ (i : Nat) (f : Field), fs[i]? = some f → DataW.trod enc P w 0 sp held fuel f.type ((cs.drop f.offset).take (P.cellsOf f.type)) = xs[i]?) →
    (∀ b ∈ DataW.weightsEach P (fs.map Field.type) (xs.map (·.1)), b ≤ reachBytes) → ∃ v, k.K w v (cs.drop off) ∧ G v
theorem OpensF.last {α : Type} {n : Nat} {P : Program} {off : Nat} {f : Field} {k : Kd α} {G : α → Prop} (ho : f.offset = off) (hc : P.cellsOf f.type = k.sz) (h : Opens n P f.type k G) : OpensF n P off [f] k G := by
  intro H enc w sp held fuel cs xs hf hl hxl hall hw
  match xs, hxl with
  | [x], _ =>
    have h1 := hall 0 f rfl
    rw [ho, hc, List.take_of_length_le (by rw [List.length_drop]; omega)] at h1
    exact h H enc w sp held fuel _ x hf h1 (fun b hb => hw b (by simpa [DataW.weightsEach] using hb))
theorem OpensF.cons {α β : Type} {n : Nat} {P : Program} {off : Nat} {f : Field} {fs : List Field} {k : Kd α} {k' : Kd β} {G : α → Prop} {G' : β → Prop} (ho : f.offset = off) (hc : P.cellsOf f.type = k.sz)
    (h : Opens n P f.type k G) (h' : OpensF n P (off + k.sz) fs k' G') : OpensF n P off (f :: fs) (Kd.pair k k') (fun v => G v.1 ∧ G' v.2) := by
  intro H enc w sp held fuel cs xs hf hl hxl hall hw
  match xs, hxl with
  | x :: xs, hxl =>
    have hl' : cs.length = off + (k.sz + k'.sz) := hl
    have h1 := hall 0 f rfl
    rw [ho, hc] at h1
    obtain ⟨v, hk, hg⟩ := h H enc w sp held fuel _ x hf h1 (fun b hb => hw b (by simp only [List.map_cons, DataW.weightsEach, List.mem_append]; exact Or.inl hb))
    obtain ⟨v', hk', hg'⟩ := h' H enc w sp held fuel cs xs hf (by omega) (by simpa using hxl) (fun i g hi => by simpa using hall (i + 1) g (by simpa using hi)) (fun b hb => hw b (by simp only [List.map_cons, DataW.weightsEach, List.mem_append]; exact Or.inr hb))
    refine ⟨(v, v'), ⟨_, _, ?_, hk, hk'⟩, hg, hg'⟩
    rw [← List.drop_drop]
    exact (List.take_append_drop _ _).symm
/-- A struct, as a Lean structure of its own: f tells its fields, g makes it. -/
theorem opens_struct {α β : Type} {n : Nat} {P : Program} {t : TypeId} {fs : Array Field} {k : Kd α} {G : α → Prop} (f : β → α) (g : α → β) (hfg : ∀ x, f (g x) = x) (hu : P.underlying t = some (.struct fs)) (hc : P.cellsOf t = k.sz)
    (h : OpensF n P 0 fs.toList k G) : Opens (n + 1) P t (Kd.iso k f) (fun v => G (f v)) := by
  intro H enc w sp held fuel cs x hf ht hw
  obtain ⟨xs, m, rfl, rfl, hl, hxl, hall⟩ := DataW.trod_struct hu ht
  obtain ⟨v, hk, hg⟩ := h H enc w sp held m cs xs (by omega) (by rw [hl, hc]; omega) (by simpa using hxl) (fun i f hi => hall i f (by simpa using hi)) (fun b hb => hw b (by simpa [DataW.weights, hu] using hb))
  rw [List.drop_zero] at hk
  exact ⟨g v, by show k.K w (f (g v)) cs; rw [hfg]; exact hk, by show G (f (g v)); rw [hfg]; exact hg⟩
theorem opens_slice' {α : Type} {n : Nat} {P : Program} {t e : TypeId} {k : Kd α} {G : α → Prop} (hu : P.underlying t = some (.slice e)) (hc : P.cellsOf e = k.sz) (h : ∀ m, m < n → Opens m P e k G) :
    Opens n P t (Kd.slice e k) (fun xs => xs.length * P.bytesOf e ≤ 140737488351232 ∧ xs.length ≤ maxLen ∧ ∀ v ∈ xs, G v) := by
  cases n with
  | zero => exact Opens.zero
  | succ n => exact opens_slice hu hc (h n (by omega))
theorem opens_struct' {α β : Type} {n : Nat} {P : Program} {t : TypeId} {fs : Array Field} {k : Kd α} {G : α → Prop} (f : β → α) (g : α → β) (hfg : ∀ x, f (g x) = x) (hu : P.underlying t = some (.struct fs)) (hc : P.cellsOf t = k.sz)
    (h : ∀ m, m < n → OpensF m P 0 fs.toList k G) : Opens n P t (Kd.iso k f) (fun v => G (f v)) := by
  cases n with
  | zero => exact Opens.zero
  | succ n => exact opens_struct f g hfg hu hc (h n (by omega))
/-- A kind told otherwise. -/
theorem Opens.of {α β : Type} {n : Nat} {P : Program} {t : TypeId} {k : Kd α} {k' : Kd β} {G : α → Prop} {G' : β → Prop} (h : Opens n P t k G) (f : α → β) (hk : ∀ w v cs, k.K w v cs → k'.K w (f v) cs) (hg : ∀ v, G v → G' (f v)) : Opens n P t k' G' := by
  intro H enc w sp held fuel cs x hf ht hw
  obtain ⟨v, hkv, hv⟩ := h H enc w sp held fuel cs x hf ht hw
  exact ⟨f v, hk _ _ _ hkv, hg v hv⟩

/-! At an argument -/
theorem arg_weights {H : Type} {P : Program} {ts : List TypeId} {ds : List (DataW H)} (hsz : (DataW.weightsEach P ts ds).all (· ≤ reachBytes) = true) {j : Nat} {t : TypeId} {d : DataW H} (ht : ts[j]? = some t) (hd : ds[j]? = some d) : ∀ b ∈ d.weights P t, b ≤ reachBytes := by
  intro b hb
  simpa using List.all_eq_true.1 hsz _ (DataW.weights_mem_each ht hd b hb)
theorem Opens.arg {α : Type} {P : Program} {t : TypeId} {k : Kd α} {G : α → Prop} (h : ∀ n, Opens n P t k G) {H : Type} {enc : TypeId × Value → H} {w : World} {v : Value} {d : DataW H} {ps : List MemPlace}
    (ht : DataW.Trod enc P w 0 (fun _ => true) true t v d ps) (hw : ∀ b ∈ d.weights P t, b ≤ reachBytes) : ∃ x, k.K w x v.cells.toList ∧ G x := by
  obtain ⟨fuel, hf⟩ := ht
  exact h fuel H enc w _ _ fuel _ _ (Nat.le_refl _) hf hw
end Go.Proofs.Ytmbojmmboolagaa.Open
