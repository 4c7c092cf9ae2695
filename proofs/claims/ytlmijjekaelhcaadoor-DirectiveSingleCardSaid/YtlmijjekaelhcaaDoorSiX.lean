/-
  Several texts of this session's own in one: Open Shelf X.
-/
import Derived.Test.YtlmijjekaelhcaaDoorRows
import Derived.Test.YtlmijjekaelhcaaDoorSiWWords
import Derived.WalkKit
import Derived.ProofKit
import Derived.OpenShut
import Derived.Deep.DeepHandedRow
import Derived.Deep.Slices
import Derived.Shelf.Strings.Builder1
import Derived.Shelf.Small.Strs
import Derived.Shelf.Strings.BuilderF
import Derived.Shelf.Strings.BuilderK
import Derived.Shelf.Strconv.Itoa0
import Derived.Shelf.Strconv.Itoa1
import Derived.Shelf.LaysM
import Derived.Shelf.Strconv.Itoa2
import Derived.Shelf.Strconv.Itoa3
import Derived.Shelf.Strings.Search1
import Derived.Shelf.Strings.BuilderCap
import Derived.Test.YtlmijjekaelhcaaDoorProg
import Derived.Lib.LaidTab
import Derived.Lib.SmallJoins
import Derived.Lib.AppendIntMem
section
set_option linter.unusedVariables false
namespace Go.Proofs.YtlmijjekaelhcaaDoor.Open
open Go.RowKit Go.Proofs.YtlmijjekaelhcaaDoorW.PrintWords Go.ChangeShapes Go.WideShapes
/-- Every reading at the type t is a value of the kind d, within the bounds B, of at most the reading's bulk. -/
def Rd {α : Type} (t : TypeId) (d : Kd α) (B : α → Prop) (m : α → Nat) : Prop :=
  ∀ {H : Type} (enc : TypeId × Value → H) (W : World) (base : Nat) (spare : Nat → Bool) (held : Bool) (fuel : Nat) (cs : List Value) (x : DataW H × List MemPlace),
    DataW.trod enc Tryd.prog W base spare held fuel t cs = some x → (∀ n ∈ x.1.weights Tryd.prog t, n ≤ reachBytes) → ∃ a, d.K W a cs ∧ B a ∧ m a ≤ Rows.uptoBulk x.1
theorem Rd.str {t : TypeId} (ht : Tryd.prog.underlying t = some .string) : Rd t Kd.string (fun s => s.size ≤ reachBytes) (fun s => s.size + 1) := by
  intro H enc W base spare held fuel cs x h hw
  obtain ⟨s, rfl, rfl, hs⟩ := DataW.trod_string ht h
  have hl : s.data.toList.length = s.size := by simp
  refine ⟨s, rfl, ?_, ?_⟩
  · have := hw s.data.toList.length (by simp [DataW.weights])
    omega
  · simp only [Rows.uptoBulk, hl]
    exact Nat.le_refl _
theorem Rd.int {t : TypeId} {k : IntKind} (ht : Tryd.prog.underlying t = some (.int k)) : Rd t (Kd.int k) (fun a => (Lit.int k a).wf = true) (fun _ => 1) := by
  intro H enc W base spare held fuel cs x h hw
  obtain ⟨a, rfl, rfl, hs⟩ := DataW.trod_int ht h
  exact ⟨a, rfl, hs, by simp [Rows.uptoBulk]⟩
theorem Rd.bool {t : TypeId} (ht : Tryd.prog.underlying t = some .bool) : Rd t Kd.bool (fun _ => True) (fun _ => 1) := by
  intro H enc W base spare held fuel cs x h hw
  obtain ⟨a, rfl, rfl⟩ := DataW.trod_bool ht h
  exact ⟨a, rfl, trivial, by simp [Rows.uptoBulk]⟩
theorem weights_mem {H : Type} {P : Program} {e : TypeId} : ∀ {l : List (DataW H)} {d : DataW H}, d ∈ l → ∀ n ∈ d.weights P e, n ∈ DataW.weightsAll P e l
  | [], _, h, _, _ => by cases h
  | a :: r, d, h, n, hn => by
    rw [DataW.weightsAll]
    rcases List.mem_cons.1 h with rfl | h
    · exact List.mem_append_left _ hn
    · exact List.mem_append_right _ (weights_mem h n hn)
theorem bulk_all {H : Type} : ∀ (l : List (DataW H)), Rows.uptoBulkAll l = (l.map Rows.uptoBulk).sum
  | [] => rfl
  | a :: r => by rw [Rows.uptoBulkAll, bulk_all r, List.map_cons, List.sum_cons]
theorem sum_le {α : Type} {m : α → Nat} : ∀ {l : List α} {c : List Nat}, l.length = c.length → (∀ (i : Nat) a b, l[i]? = some a → c[i]? = some b → m a ≤ b) → (l.map m).sum ≤ c.sum
  | [], [], _, _ => Nat.le_refl _
  | [], _ :: _, h, _ => by cases h
  | _ :: _, [], h, _ => by cases h
  | a :: l, b :: c, h, hm => by
    rw [List.map_cons, List.sum_cons, List.sum_cons]
    have h1 := hm 0 a b rfl rfl
    have h2 := sum_le (m := m) (l := l) (c := c) (by simpa using h) (fun i x y hx hy => hm (i + 1) x y (by simpa using hx) (by simpa using hy))
    omega
def w_cells (W : World) (base : Nat) (a : Addr) (i : Nat) (e : TypeId) (cs : List Value) : Prop := W.cells? base (a.add (i * Tryd.prog.cellsOf e)) (Tryd.prog.cellsOf e) = some cs
theorem cells_get {W : World} {base : Nat} {a : Addr} {j : Nat} {e : TypeId} {cs : List Value} (h : w_cells W base a j e cs) {i : Nat} {u : Value} (hu : cs[i]? = some u) : W.cell? (a.add (j * Tryd.prog.cellsOf e + i)) = some u := by
  obtain ⟨_, hl, hc⟩ := World.cells?_some h
  have hi : i < cs.length := (List.getElem?_eq_some_iff.1 hu).1
  rw [← Addr.add_add, hc i (by omega), hu]
/-- A slice, as it reads. -/
theorem Rd.row {α : Type} {t e : TypeId} {d : Kd α} {B : α → Prop} {m : α → Nat} (ht : Tryd.prog.underlying t = some (.slice e)) (hc : Tryd.prog.cellsOf e = d.sz) (he : Rd e d B m)
    {H : Type} (enc : TypeId × Value → H) (W : World) (base : Nat) (spare : Nat → Bool) (held : Bool) (fuel : Nat) (cs : List Value) (x : DataW H × List MemPlace)
    (h : DataW.trod enc Tryd.prog W base spare held fuel t cs = some x) (hw : ∀ n ∈ x.1.weights Tryd.prog t, n ≤ reachBytes) :
    ∃ (l : List α) (A : Option Addr) (c : Nat), cs = [.slice A l.length c] ∧ l.length ≤ c ∧ d.C W A l.length l ∧ l.length * Tryd.prog.bytesOf e ≤ reachBytes ∧ l.length ≤ maxLen ∧ (∀ a ∈ l, B a) ∧ (l.map m).sum + 1 ≤ Rows.uptoBulk x.1 := by
  rcases DataW.trod_slice ht h with ⟨rfl, rfl⟩ | ⟨a, len, cap, elems, rest, n, _, rfl, rfl, hb, hl, hm, hlen, hel, hsp, hns⟩
  · exact ⟨[], none, 0, rfl, Nat.le_refl _, ⟨rfl, Nat.zero_le _, fun h => absurd h (Nat.lt_irrefl 0)⟩, by simp, by simp, (fun a h => by cases h), by simp [Rows.uptoBulk]⟩
  · have hw1 : (elems.map (·.1)).length * Tryd.prog.bytesOf e ≤ reachBytes := by
      have := hw (((elems.map (·.1)).length + (rest.map (·.1)).length) * Tryd.prog.bytesOf e) (by simp only [DataW.weights, ht]; exact List.mem_cons_self)
      exact Nat.le_trans (Nat.mul_le_mul_right _ (Nat.le_add_right _ _)) this
    have key : ∀ i : Fin len, ∃ b : α × DataW H, (elems.map (·.1))[i.1]? = some b.2 ∧ B b.1 ∧ m b.1 ≤ Rows.uptoBulk b.2 ∧ ∃ cs', w_cells W base a i.1 e cs' ∧ d.K W b.1 cs' := by
      intro i
      have h1 := hel i.1 i.2
      have hi : i.1 < elems.length := by rw [hlen]; exact i.2
      rw [List.getElem?_eq_getElem hi] at h1
      obtain ⟨cs', hcs, htr⟩ := Option.bind_eq_some_iff.1 h1
      obtain ⟨b, hK, hB, hm⟩ := he enc W base spare held n cs' elems[i.1] htr (fun q hq => hw q (by
        simp only [DataW.weights, ht]
        refine List.mem_cons_of_mem _ (List.mem_append_left _ (weights_mem (d := elems[i.1].1) ?_ q hq))
        exact List.mem_map.2 ⟨_, List.getElem_mem hi, rfl⟩))
      exact ⟨(b, elems[i.1].1), by simp [List.getElem?_map, List.getElem?_eq_getElem hi], hB, hm, cs', hcs, hK⟩
    let f : Fin len → α × DataW H := fun i => Classical.choose (key i)
    have hf := fun i => Classical.choose_spec (key i)
    have hL : ((List.finRange len).map fun i => (f i).1).length = len := by simp
    refine ⟨(List.finRange len).map fun i => (f i).1, some a, cap, by rw [hL], by rw [hL]; exact hl, ?_, ?_, by rw [hL]; omega, ?_, ?_⟩
    · rw [hL]
      refine ⟨hL, by unfold maxLen at hm; omega, fun h0 => ⟨a, rfl, ?_⟩⟩
      intro j p hj
      have hjl : j < len := by
        have := (List.getElem?_eq_some_iff.1 hj).1
        rwa [hL] at this
      have hp : p = (f ⟨j, hjl⟩).1 := by
        rw [List.getElem?_map] at hj
        simp only [List.getElem?_eq_getElem (show j < (List.finRange len).length by simpa using hjl), List.getElem_finRange, Option.map_some, Option.some.injEq] at hj
        exact hj.symm
      obtain ⟨_, _, _, cs', hcs, hK⟩ := hf ⟨j, hjl⟩
      rw [hp]
      refine ⟨cs', d.K_len hK, hK, fun i u hu => ?_⟩
      have := cells_get hcs (i := i) (u := u) hu
      rwa [hc] at this
    · rw [hL]
      have : (elems.map (·.1)).length = len := by simpa using hlen
      rw [this] at hw1
      exact hw1
    · intro x hx
      obtain ⟨i, _, rfl⟩ := List.mem_map.1 hx
      exact (hf i).2.1
    · have hs := sum_le (m := m) (l := (List.finRange len).map fun i => (f i).1) (c := (elems.map (·.1)).map Rows.uptoBulk) (by simp [hlen]) (fun i x y hx hy => by
        have hil : i < len := by
          have := (List.getElem?_eq_some_iff.1 hx).1
          rwa [hL] at this
        have h1 := hf ⟨i, hil⟩
        have hxe : x = (f ⟨i, hil⟩).1 := by
          rw [List.getElem?_map] at hx
          simp only [List.getElem?_eq_getElem (show i < (List.finRange len).length by simpa using hil), List.getElem_finRange, Option.map_some, Option.some.injEq] at hx
          exact hx.symm
        have hye : y = Rows.uptoBulk (f ⟨i, hil⟩).2 := by
          rw [List.getElem?_map, h1.1] at hy
          exact (Option.some.inj hy).symm
        rw [hxe, hye]
        exact h1.2.2.1)
      simp only [Rows.uptoBulk, bulk_all]
      omega
theorem Rd.slice {α : Type} {t e : TypeId} {d : Kd α} {B : α → Prop} {m : α → Nat} (ht : Tryd.prog.underlying t = some (.slice e)) (hc : Tryd.prog.cellsOf e = d.sz) (he : Rd e d B m) :
    Rd t (Kd.slice e d) (fun l => l.length * Tryd.prog.bytesOf e ≤ reachBytes ∧ l.length ≤ maxLen ∧ ∀ a ∈ l, B a) (fun l => (l.map m).sum + 1) := by
  intro H enc W base spare held fuel cs x h hw
  obtain ⟨l, A, c, rfl, hl, hC, h1, h2, h3, h4⟩ := Rd.row ht hc he enc W base spare held fuel cs x h hw
  exact ⟨l, ⟨A, c, rfl, hl, hC⟩, ⟨h1, h2, h3⟩, h4⟩
end Go.Proofs.YtlmijjekaelhcaaDoor.Open
end
section
namespace Go.Proofs
open Go.Shelf
def Tryd.lays169_ren : Go.Shelf.Ren := ⟨fun | 169 => 28 | n => n, fun | 70 => 59 | 9 => 9 | 0 => 0 | 72 => 62 | 37 => 60 | 127 => 79 | 3 => 3 | 5 => 5 | n => n, fun | n => n⟩
theorem Tryd.lays169 : Go.Proofs.Lays.n169 Tryd.prog Tryd.lays169_ren := {
  mixed := by kernel_rfl
  f169 := Tryd.func28.trans (congrArg some (by kernel_rfl))
  t0 := Tryd.underlying0
  a0 := Tryd.isAgg0
  z0 := Tryd.sizeOf0
  v0 := Tryd.zeroValue0
  t3 := Tryd.underlying3
  a3 := Tryd.isAgg3
  z3 := Tryd.sizeOf3
  v3 := Tryd.zeroValue3
  t9 := Tryd.underlying9
  a9 := Tryd.isAgg9
  z9 := Tryd.sizeOf9
  v9 := Tryd.zeroValue9
  t37 := Tryd.underlying60
  a37 := Tryd.isAgg60
  z37 := Tryd.sizeOf60
  v37 := Tryd.zeroValue60
  t70 := Tryd.underlying59
  a70 := Tryd.isAgg59
  z70 := Tryd.sizeOf59
  v70 := Tryd.zeroValue59
  t72 := Tryd.underlying62
  a72 := Tryd.isAgg62
  z72 := Tryd.sizeOf62
  v72 := Tryd.zeroValue62
  t127 := Tryd.underlying79
  a127 := Tryd.isAgg79
  z127 := Tryd.sizeOf79
  v127 := Tryd.zeroValue79 }
theorem Tryd.Builder_Extra_169 : Builder.Extra Tryd.prog Tryd.lays169_ren := {
  sizeBuilder := by kernel_rfl
  liesBuilder := by kernel_rfl
  t5 := Tryd.underlying5
  a5 := Tryd.isAgg5
  z5 := Tryd.sizeOf5
  v5 := Tryd.zeroValue5
  infoByte := by kernel_rfl
  cellsByte := by kernel_rfl
  sizeByte := by kernel_rfl
  neB5 := by decide }
open Go.RowKit in
/-- (*strings.Builder).String: "String returns the accumulated string.": WHATEVER THE BUILDER HOLDS; THE FORM '_f': OF A BUILDER THAT MAY HAVE BEEN READ BEFORE; AND IT IS A BUILDER STILL, holding the same bytes: it can be written on. (LAID: no walk: one application.) -/
theorem Tryd.Builder_String_any_f (B b : Nat) (l : List UInt8) (w : World) (h : Lib.IsBuilderF 62 5 B b (Lib.byteCells l) w) (hBw : B ≤ w.heap.size) :
    Calls Tryd.prog 28 #[.pointer (some ⟨b, 0, none⟩)] w fun e w' => e = .returned (.string ⟨l.toArray⟩) ∧ (Lib.IsBuilderF 62 5 B b (Lib.byteCells l) w' ∧ Below B w w') := Any.Builder_String_any_f Tryd.lays169 Tryd.Builder_Extra_169 B b l w h hBw
def Tryd.laysM171_ren : Go.Shelf.Ren := ⟨fun | 171 => 55 | 243 => 61 | 246 => 62 | 283 => 63 | 284 => 64 | 285 => 65 | 286 => 66 | 129 => 68 | 317 => 67 | 318 => 69 | 319 => 70 | 320 => 71 | 337 => 72 | 338 => 73 | n => n, fun | 3 => 3 | 9 => 9 | 2 => 2 | 4 => 4 | 171 => 92 | 0 => 0 | 53 => 93 | 37 => 60 | 5 => 5 | 173 => 96 | 212 => 100 | 51 => 101 | 20 => 20 | 213 => 102 | 46 => 104 | 232 => 107 | 233 => 108 | n => n, fun | 17 => 1 | 18 => 2 | 19 => 3 | n => n⟩
theorem Tryd.laysM171 : Go.Proofs.LaysM.n171 Tryd.prog Tryd.laysM171_ren := {
  mixed := by kernel_rfl
  f129 := Tryd.func68.trans (congrArg some (by kernel_rfl))
  f171 := Tryd.func55.trans (congrArg some (by kernel_rfl))
  f243 := Tryd.func61.trans (congrArg some (by kernel_rfl))
  f246 := Tryd.func62.trans (congrArg some (by kernel_rfl))
  f283 := Tryd.func63.trans (congrArg some (by kernel_rfl))
  f284 := Tryd.func64.trans (congrArg some (by kernel_rfl))
  f285 := Tryd.func65.trans (congrArg some (by kernel_rfl))
  f286 := Tryd.func66.trans (congrArg some (by kernel_rfl))
  f317 := Tryd.func67.trans (congrArg some (by kernel_rfl))
  f318 := Tryd.func69.trans (congrArg some (by kernel_rfl))
  f319 := Tryd.func70.trans (congrArg some (by kernel_rfl))
  f320 := Tryd.func71.trans (congrArg some (by kernel_rfl))
  f337 := Tryd.func72.trans (congrArg some (by kernel_rfl))
  f338 := Tryd.func73.trans (congrArg some (by kernel_rfl))
  t0 := Tryd.underlying0
  a0 := Tryd.isAgg0
  z0 := Tryd.sizeOf0
  v0 := Tryd.zeroValue0
  t2 := Tryd.underlying2
  a2 := Tryd.isAgg2
  z2 := Tryd.sizeOf2
  v2 := Tryd.zeroValue2
  t3 := Tryd.underlying3
  a3 := Tryd.isAgg3
  z3 := Tryd.sizeOf3
  v3 := Tryd.zeroValue3
  t4 := Tryd.underlying4
  a4 := Tryd.isAgg4
  z4 := Tryd.sizeOf4
  v4 := Tryd.zeroValue4
  t5 := Tryd.underlying5
  a5 := Tryd.isAgg5
  z5 := Tryd.sizeOf5
  v5 := Tryd.zeroValue5
  t9 := Tryd.underlying9
  a9 := Tryd.isAgg9
  z9 := Tryd.sizeOf9
  v9 := Tryd.zeroValue9
  t20 := Tryd.underlying20
  a20 := Tryd.isAgg20
  z20 := Tryd.sizeOf20
  v20 := Tryd.zeroValue20
  t37 := Tryd.underlying60
  a37 := Tryd.isAgg60
  z37 := Tryd.sizeOf60
  v37 := Tryd.zeroValue60
  t46 := Tryd.underlying104
  a46 := Tryd.isAgg104
  z46 := Tryd.sizeOf104
  v46 := Tryd.zeroValue104
  t51 := Tryd.underlying101
  a51 := Tryd.isAgg101
  z51 := Tryd.sizeOf101
  v51 := Tryd.zeroValue101
  t53 := Tryd.underlying93
  a53 := Tryd.isAgg93
  z53 := Tryd.sizeOf93
  v53 := Tryd.zeroValue93
  t171 := Tryd.underlying92
  a171 := Tryd.isAgg92
  z171 := Tryd.sizeOf92
  v171 := Tryd.zeroValue92
  t173 := Tryd.underlying96
  a173 := Tryd.isAgg96
  z173 := Tryd.sizeOf96
  v173 := Tryd.zeroValue96
  t212 := Tryd.underlying100
  a212 := Tryd.isAgg100
  z212 := Tryd.sizeOf100
  v212 := Tryd.zeroValue100
  t213 := Tryd.underlying102
  a213 := Tryd.isAgg102
  z213 := Tryd.sizeOf102
  t232 := Tryd.underlying107
  a232 := Tryd.isAgg107
  z232 := Tryd.sizeOf107
  v232 := Tryd.zeroValue107
  t233 := Tryd.underlying108
  a233 := Tryd.isAgg108
  z233 := Tryd.sizeOf108
  v233 := Tryd.zeroValue108
  g17 := by kernel_rfl
  g18 := by kernel_rfl
  g19 := by kernel_rfl
  i0 := by kernel_rfl
  i2 := by kernel_rfl
  i3 := by kernel_rfl
  i4 := by kernel_rfl
  i5 := by kernel_rfl
  i9 := by kernel_rfl
  i20 := by kernel_rfl
  i37 := by kernel_rfl
  i46 := by kernel_rfl
  i51 := by kernel_rfl
  i53 := by kernel_rfl
  i171 := by kernel_rfl
  i173 := by kernel_rfl
  i212 := by kernel_rfl
  i232 := by kernel_rfl
  i233 := by kernel_rfl
  m17 := by kernel_rfl
  m18 := by kernel_rfl
  m19 := by kernel_rfl }
open Go.RowKit Go.Sort Go.Lib in
/-- strconv.Itoa: "Itoa is equivalent to FormatInt(int64(i), 10).": i's DECIMAL NUMERAL ('Lib.itoa': a '-' where i is negative, then the digits), FOR EVERY int. The world behind the call: the world before it, new blocks behind the heap (the library's 'var a [24]byte'), draws. (LAID: no walk: one application.) -/
theorem Tryd.strconv_Itoa (n : Int) (h0 : -9223372036854775808 ≤ n) (h1 : n ≤ 9223372036854775807) (w : World) (htab : Lib.TabIs Tryd.prog w "internal/strconv.uint64pow10" .u64 Lib.pow10Tab) :
    Calls Tryd.prog 55 #[.int .i64 n] w fun e w' => e = .returned (.string ⟨(Lib.itoa n).toArray⟩) ∧ ∃ k os, w' = grow (w.drewN k) os := Any.strconv_Itoa Tryd.laysM171 n h0 h1 w htab
def Tryd.lays217_ren : Go.Shelf.Ren := ⟨fun | 217 => 41 | 266 => 54 | n => n, fun | 9 => 9 | 5 => 5 | 3 => 3 | n => n, fun | n => n⟩
theorem Tryd.lays217 : Go.Proofs.Lays.n217 Tryd.prog Tryd.lays217_ren := {
  mixed := by kernel_rfl
  f217 := Tryd.func41.trans (congrArg some (by kernel_rfl))
  f266 := Tryd.func54.trans (congrArg some (by kernel_rfl))
  t3 := Tryd.underlying3
  a3 := Tryd.isAgg3
  z3 := Tryd.sizeOf3
  v3 := Tryd.zeroValue3
  t5 := Tryd.underlying5
  a5 := Tryd.isAgg5
  z5 := Tryd.sizeOf5
  v5 := Tryd.zeroValue5
  t9 := Tryd.underlying9
  a9 := Tryd.isAgg9
  z9 := Tryd.sizeOf9
  v9 := Tryd.zeroValue9 }
open Go.RowKit Go.Lib in
/-- internal/stringslite.IndexByte (what strings.IndexByte calls): IT RETURNS 'Lib.indexByte s c'; the world is as it was. (LAID: no walk: one application.) -/
theorem Tryd.stringslite_IndexByte (s : ByteArray) (c : Int) (w : World) :
    Calls Tryd.prog 41 #[.string s, .int .u8 c] w fun e w' => e = .returned (.int .i64 (Lib.indexByte s.data.toList c.toNat.toUInt8)) ∧ w' = w := Any.stringslite_IndexByte Tryd.lays217 s c w
end Go.Proofs
end
section
set_option linter.unusedVariables false
namespace Go.Proofs.YtlmijjekaelhcaaDoor.X
open Go.RowKit Go.Proofs.YtlmijjekaelhcaaDoorW.PrintWords
/-- What the calls of strconv.Itoa ask of the world: its table holds the powers of ten. -/
def GW (w : World) : Prop := Lib.TabIs Tryd.prog w "internal/strconv.uint64pow10" .u64 Lib.pow10Tab
theorem gPow : Tryd.prog.globalNamed "internal/strconv.uint64pow10" = some 1 := by kernel_rfl
theorem GW.below {w w' : World} (h : GW w) (hb : Below w.heap.size w w') : GW w' := Go.Joins.tab_stays gPow h hb (Nat.le_refl _)
def xIndexByte.f (a0 : ByteArray) (a1 : Int) : Option Int := some (Lib.indexByte a0.data.toList a1.toNat.toUInt8)
set_option maxHeartbeats 400000 in
theorem xIndexByte.calls (a0 : ByteArray) (a1 : Int) (r : Int) (w : World) (h : xIndexByte.f a0 a1 = some r) :
    Calls Tryd.prog 25 #[.string a0, .int .u8 a1] w fun e w' => e = .returned (.int .i64 r) ∧ Below w.heap.size w w' := by
  obtain rfl := Option.some.inj h
  clear h
  go_enter Tryd.func25, Tryd.ntmps25
  go_wp2_with (go_at_call 41; refine (Tryd.stringslite_IndexByte a0 a1 _).mono ?_; rintro e w1 ⟨rfl, rfl⟩)
  go_ret
  exact ⟨rfl, Below.refl _ _⟩
def xItoa.f (a0 : Int) : Option ByteArray := if -9223372036854775808 ≤ a0 ∧ a0 ≤ 9223372036854775807 then some ⟨(Lib.itoa a0).toArray⟩ else none
theorem xItoa.calls (a0 : Int) (r : ByteArray) (w : World) (hG : GW w) (h : xItoa.f a0 = some r) :
    Calls Tryd.prog 55 #[.int .i64 a0] w fun e w' => e = .returned (.string r) ∧ Below w.heap.size w w' := by
  unfold xItoa.f at h
  split at h
  · rename_i e
    obtain rfl := Option.some.inj h
    exact (Tryd.strconv_Itoa a0 e.1 e.2 w hG).mono fun e w' ⟨h1, k, os, h2⟩ => ⟨h1, by subst h2; exact Lib.below_grow _ _ (Nat.le_refl _) _ _⟩
  · cases h
def xReader.f (s : ByteArray) (at_ : Int) : Option (ByteArray × Int × Int × Int × ByteArray × Int × Int × Int × Int × Int × Int) := some (s, at_, 0, 0, ⟨#[]⟩, 0, 0, 0, 0, 0, 0)
end Go.Proofs.YtlmijjekaelhcaaDoor.X
end
