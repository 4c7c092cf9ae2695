/-
  How the arguments of a law read: a value of a kind out of a datum's reading, with its bounds and its bulk. (A text of this session's own; YtdeannaaafffbaaDoor: the seat's Name, Tryd: its alias.)
-/
import Derived.Test.YtdeannaaafffbaaDoorRows
import Derived.Test.YtdeannaaafffbaaDoorKeWWords
import Derived.WalkKit
import Derived.ProofKit
import Derived.OpenShut
import Derived.Deep.DeepHandedRow
import Derived.Deep.Slices
set_option linter.unusedSimpArgs false
set_option linter.unusedVariables false
namespace Go.Proofs.YtdeannaaafffbaaDoor.Open
open Go.RowKit Go.Proofs.YtdeannaaafffbaaDoorW.PrintWords Go.ChangeShapes Go.WideShapes
/-- Every reading at the type t is a value of the kind d, within the bounds B, of at most the reading's bulk. -/
def Rd {α : Type} (t : TypeId) (d : Kd α) (B : α → Prop) (m : α → Nat) : Prop :=
  ∀ {H : Type} (enc : TypeId × Value → H) (W : World) (base : Nat) (spare : Nat → Bool) (held : Bool) (fuel : Nat) (cs : List Value) (x : DataW H × List MemPlace),
    DataW.trod enc Tryd.prog W base spare held fuel t cs = some x → (∀ n ∈ x.1.weights Tryd.prog t, n ≤ reachBytes) → ∃ a, d.K W a cs ∧ B a ∧ m a ≤ Rows.uptoBulk x.1
theorem Rd.str {t : TypeId} (ht : Tryd.prog.underlying t = some .string) : Rd t Kd.string (fun s => s.size ≤ reachBytes) (fun s => s.size + 1) := by
  intro H enc W base spare held fuel cs x h hw
  obtain ⟨s, rfl, rfl, hs⟩ := DataW.trod_string ht h
  have hl : s.data.toList.length = s.size := by simp
  refine ⟨s, rfl, ?_, ?_⟩
  · have := hw s.data.toList.length (by simp [DataW.weights])
    omega
  · simp only [Rows.uptoBulk, hl]
    exact Nat.le_refl _
theorem Rd.int {t : TypeId} {k : IntKind} (ht : Tryd.prog.underlying t = some (.int k)) : Rd t (Kd.int k) (fun a => (Lit.int k a).wf = true) (fun _ => 1) := by
  intro H enc W base spare held fuel cs x h hw
  obtain ⟨a, rfl, rfl, hs⟩ := DataW.trod_int ht h
  exact ⟨a, rfl, hs, by simp [Rows.uptoBulk]⟩
theorem Rd.bool {t : TypeId} (ht : Tryd.prog.underlying t = some .bool) : Rd t Kd.bool (fun _ => True) (fun _ => 1) := by
  intro H enc W base spare held fuel cs x h hw
  obtain ⟨a, rfl, rfl⟩ := DataW.trod_bool ht h
  exact ⟨a, rfl, trivial, by simp [Rows.uptoBulk]⟩
theorem weights_mem {H : Type} {P : Program} {e : TypeId} : ∀ {l : List (DataW H)} {d : DataW H}, d ∈ l → ∀ n ∈ d.weights P e, n ∈ DataW.weightsAll P e l
  | [], _, h, _, _ => by cases h
  | a :: r, d, h, n, hn => by
    rw [DataW.weightsAll]
    rcases List.mem_cons.1 h with rfl | h
    · exact List.mem_append_left _ hn
    · exact List.mem_append_right _ (weights_mem h n hn)
theorem bulk_all {H : Type} : ∀ (l : List (DataW H)), Rows.uptoBulkAll l = (l.map Rows.uptoBulk).sum
  | [] => rfl
  | a :: r => by rw [Rows.uptoBulkAll, bulk_all r, List.map_cons, List.sum_cons]
theorem sum_le {α : Type} {m : α → Nat} : ∀ {l : List α} {c : List Nat}, l.length = c.length → (∀ (i : Nat) a b, l[i]? = some a → c[i]? = some b → m a ≤ b) → (l.map m).sum ≤ c.sum
  | [], [], _, _ => Nat.le_refl _
  | [], _ :: _, h, _ => by cases h
  | _ :: _, [], h, _ => by cases h
  | a :: l, b :: c, h, hm => by
    rw [List.map_cons, List.sum_cons, List.sum_cons]
    have h1 := hm 0 a b rfl rfl
    have h2 := sum_le (m := m) (l := l) (c := c) (by simpa using h) (fun i x y hx hy => hm (i + 1) x y (by simpa using hx) (by simpa using hy))
    omega
def w_cells (W : World) (base : Nat) (a : Addr) (i : Nat) (e : TypeId) (cs : List Value) : Prop := W.cells? base (a.add (i * Tryd.prog.cellsOf e)) (Tryd.prog.cellsOf e) = some cs
theorem cells_get {W : World} {base : Nat} {a : Addr} {j : Nat} {e : TypeId} {cs : List Value} (h : w_cells W base a j e cs) {i : Nat} {u : Value} (hu : cs[i]? = some u) : W.cell? (a.add (j * Tryd.prog.cellsOf e + i)) = some u := by
  obtain ⟨_, hl, hc⟩ := World.cells?_some h
  have hi : i < cs.length := (List.getElem?_eq_some_iff.1 hu).1
  rw [← Addr.add_add, hc i (by omega), hu]
/-- A slice, as it reads. -/
theorem Rd.row {α : Type} {t e : TypeId} {d : Kd α} {B : α → Prop} {m : α → Nat} (ht : Tryd.prog.underlying t = some (.slice e)) (hc : Tryd.prog.cellsOf e = d.sz) (he : Rd e d B m)
    {H : Type} (enc : TypeId × Value → H) (W : World) (base : Nat) (spare : Nat → Bool) (held : Bool) (fuel : Nat) (cs : List Value) (x : DataW H × List MemPlace)
    (h : DataW.trod enc Tryd.prog W base spare held fuel t cs = some x) (hw : ∀ n ∈ x.1.weights Tryd.prog t, n ≤ reachBytes) :
    ∃ (l : List α) (A : Option Addr) (c : Nat), cs = [.slice A l.length c] ∧ l.length ≤ c ∧ d.C W A l.length l ∧ l.length * Tryd.prog.bytesOf e ≤ reachBytes ∧ l.length ≤ maxLen ∧ (∀ a ∈ l, B a) ∧ (l.map m).sum + 1 ≤ Rows.uptoBulk x.1 := by
  rcases DataW.trod_slice ht h with ⟨rfl, rfl⟩ | ⟨a, len, cap, elems, rest, n, _, rfl, rfl, hb, hl, hm, hlen, hel, hsp, hns⟩
  · exact ⟨[], none, 0, rfl, Nat.le_refl _, ⟨rfl, Nat.zero_le _, fun h => absurd h (Nat.lt_irrefl 0)⟩, by simp, by simp, (fun a h => by cases h), by simp [Rows.uptoBulk]⟩
  · have hw1 : (elems.map (·.1)).length * Tryd.prog.bytesOf e ≤ reachBytes := by
      have := hw (((elems.map (·.1)).length + (rest.map (·.1)).length) * Tryd.prog.bytesOf e) (by simp only [DataW.weights, ht]; exact List.mem_cons_self)
      exact Nat.le_trans (Nat.mul_le_mul_right _ (Nat.le_add_right _ _)) this
    have key : ∀ i : Fin len, ∃ b : α × DataW H, (elems.map (·.1))[i.1]? = some b.2 ∧ B b.1 ∧ m b.1 ≤ Rows.uptoBulk b.2 ∧ ∃ cs', w_cells W base a i.1 e cs' ∧ d.K W b.1 cs' := by
      intro i
      have h1 := hel i.1 i.2
      have hi : i.1 < elems.length := by rw [hlen]; exact i.2
      rw [List.getElem?_eq_getElem hi] at h1
      obtain ⟨cs', hcs, htr⟩ := Option.bind_eq_some_iff.1 h1
      obtain ⟨b, hK, hB, hm⟩ := he enc W base spare held n cs' elems[i.1] htr (fun q hq => hw q (by
        simp only [DataW.weights, ht]
        refine List.mem_cons_of_mem _ (List.mem_append_left _ (weights_mem (d := elems[i.1].1) ?_ q hq))
        exact List.mem_map.2 ⟨_, List.getElem_mem hi, rfl⟩))
      exact ⟨(b, elems[i.1].1), by simp [List.getElem?_map, List.getElem?_eq_getElem hi], hB, hm, cs', hcs, hK⟩
    let f : Fin len → α × DataW H := fun i => Classical.choose (key i)
    have hf := fun i => Classical.choose_spec (key i)
    have hL : ((List.finRange len).map fun i => (f i).1).length = len := by simp
    refine ⟨(List.finRange len).map fun i => (f i).1, some a, cap, by rw [hL], by rw [hL]; exact hl, ?_, ?_, by rw [hL]; omega, ?_, ?_⟩
    · rw [hL]
      refine ⟨hL, by unfold maxLen at hm; omega, fun h0 => ⟨a, rfl, ?_⟩⟩
      intro j p hj
      have hjl : j < len := by
        have := (List.getElem?_eq_some_iff.1 hj).1
        rwa [hL] at this
      have hp : p = (f ⟨j, hjl⟩).1 := by
        rw [List.getElem?_map] at hj
        simp only [List.getElem?_eq_getElem (show j < (List.finRange len).length by simpa using hjl), List.getElem_finRange, Option.map_some, Option.some.injEq] at hj
        exact hj.symm
      obtain ⟨_, _, _, cs', hcs, hK⟩ := hf ⟨j, hjl⟩
      rw [hp]
      refine ⟨cs', d.K_len hK, hK, fun i u hu => ?_⟩
      have := cells_get hcs (i := i) (u := u) hu
      rwa [hc] at this
    · rw [hL]
      have : (elems.map (·.1)).length = len := by simpa using hlen
      rw [this] at hw1
      exact hw1
    · intro x hx
      obtain ⟨i, _, rfl⟩ := List.mem_map.1 hx
      exact (hf i).2.1
    · have hs := sum_le (m := m) (l := (List.finRange len).map fun i => (f i).1) (c := (elems.map (·.1)).map Rows.uptoBulk) (by simp [hlen]) (fun i x y hx hy => by
        have hil : i < len := by
          have := (List.getElem?_eq_some_iff.1 hx).1
          rwa [hL] at this
        have h1 := hf ⟨i, hil⟩
        have hxe : x = (f ⟨i, hil⟩).1 := by
          rw [List.getElem?_map] at hx
          simp only [List.getElem?_eq_getElem (show i < (List.finRange len).length by simpa using hil), List.getElem_finRange, Option.map_some, Option.some.injEq] at hx
          exact hx.symm
        have hye : y = Rows.uptoBulk (f ⟨i, hil⟩).2 := by
          rw [List.getElem?_map, h1.1] at hy
          exact (Option.some.inj hy).symm
        rw [hxe, hye]
        exact h1.2.2.1)
      simp only [Rows.uptoBulk, bulk_all]
      omega
theorem Rd.slice {α : Type} {t e : TypeId} {d : Kd α} {B : α → Prop} {m : α → Nat} (ht : Tryd.prog.underlying t = some (.slice e)) (hc : Tryd.prog.cellsOf e = d.sz) (he : Rd e d B m) :
    Rd t (Kd.slice e d) (fun l => l.length * Tryd.prog.bytesOf e ≤ reachBytes ∧ l.length ≤ maxLen ∧ ∀ a ∈ l, B a) (fun l => (l.map m).sum + 1) := by
  intro H enc W base spare held fuel cs x h hw
  obtain ⟨l, A, c, rfl, hl, hC, h1, h2, h3, h4⟩ := Rd.row ht hc he enc W base spare held fuel cs x h hw
  exact ⟨l, ⟨A, c, rfl, hl, hC⟩, ⟨h1, h2, h3⟩, h4⟩
end Go.Proofs.YtdeannaaafffbaaDoor.Open
