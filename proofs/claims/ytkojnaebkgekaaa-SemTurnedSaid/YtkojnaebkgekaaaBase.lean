/-
  Words for all the claims of this seat: instructions as a kind, small laws on worlds.
-/
import Derived.Test.YtkojnaebkgekaaaProg
import Derived.WalkKit
import Derived.WalkSpells
import Derived.WalkLawsBesides
import Derived.Lib.Hide
import Derived.Handy
import Derived.Deep.QuietTactic
import Derived.BigQuiet
import Derived.Test.YtkojnaebkgekaaaWWords
set_option linter.unusedVariables false
set_option linter.unusedSimpArgs false
namespace Go.Proofs.Ytkojnaebkgekaaa
open Go.RowKit Go.Proofs.YtkojnaebkgekaaaW.PrintWords

/-! ### Worlds -/
theorem bl_alloc {B : Nat} {w W : World} (h : Below B w W) (hB : B ≤ W.heap.size) (o : Obj) : Below B w (W.alloc o) := h.alloc hB o
theorem bl_set {B : Nat} {w W : World} (h : Below B w W) {p : Addr} (hb : B ≤ p.block) (u : Value) : Below B w (W.setCell p u) := h.setCell hb u
theorem bl_call {B : Nat} {w W w1 : World} (h : Below B w W) (hB : B ≤ W.heap.size) (k : Below W.heap.size W w1) : Below B w w1 := below_then h hB k
theorem bl_size {B : Nat} {w W : World} (h : Below B w W) : w.heap.size ≤ W.heap.size := h.size
theorem bcell {W w1 : World} (hb : Below W.heap.size W w1) : (∀ a : Addr, a.block < W.heap.size → w1.cell? a = W.cell? a) ∧ (∀ a : Addr, a.block < W.heap.size → w1.frozen? a = W.frozen? a) :=
  ⟨fun _ h => hb.cell h, fun _ h => hb.frozen h⟩
theorem add_block (A : Addr) (n : Nat) : (A.add n).block = A.block := by unfold Addr.add; split <;> rfl
theorem ret_int {k : IntKind} {a b : Int} (h : a = b) : Ending.returned (.int k a) = .returned (.int k b) := by rw [h]

theorem ret_bool {a b : Bool} (h : a = b) : Ending.returned (.bool a) = .returned (.bool b) := by rw [h]

/-! ### Values of several cells whose cells are told by the value alone -/
def flat {α : Type} (enc : α → List Value) (n : Nat) (hl : ∀ x, (enc x).length = n) (h1 : ∀ x, ∀ u ∈ enc x, u.oneCell' = true) : Kd α where
  sz := n
  E := []
  K := fun _ x cs => cs = enc x
  M := fun _ _ _ x cs => cs = enc x
  K_len := fun h => by rw [h]; exact hl _
  K_one := fun h u hu => by rw [h] at hu; exact h1 _ u hu
  K_below := fun _ h => h
  K_of_M := fun h => h
  M_mono := fun _ h => h
  M_bound := fun h => h
  M_move := fun _ h => h
  M_lower := fun _ h => h
theorem spot_of_cell {w : World} {a : Addr} {v : Value} (h : w.cell? a = some v) : a.spot = none := by
  unfold World.cell? at h
  split at h
  · split at h
    · cases h
    · rename_i h'
      cases hs : a.spot with
      | none => rfl
      | some s => simp [hs] at h'
  · cases h
theorem add_nat (b o k : Nat) : (⟨b, o, none⟩ : Addr).add k = ⟨b, o + k, none⟩ := by unfold Addr.add; split <;> simp_all
/-- A row that is read: where it lies, once it has an element. -/
theorem C_at {α : Type} {d : Kd α} {w : World} {A : Option Addr} {n : Nat} {xs : List α} (hsz : 0 < d.sz) (h : d.C w A n xs) (hp : 0 < xs.length) :
    ∃ b o, A = some ⟨b, o, none⟩ ∧ b < w.heap.size ∧ ∀ i x, xs[i]? = some x → ∃ c, c.length = d.sz ∧ d.K w x c ∧ ∀ j u, c[j]? = some u → w.cell? ⟨b, o + i * d.sz + j, none⟩ = some u := by
  obtain ⟨ad, e, hc⟩ := h.2.2 (by have := h.1; omega)
  obtain ⟨c0, hl0, _, hcell0⟩ := hc 0 _ (List.getElem?_eq_getElem hp)
  have h0 := hcell0 0 c0[0] (List.getElem?_eq_getElem (by omega))
  have hs : ad.spot = none := by
    have := spot_of_cell h0
    rw [Nat.zero_mul] at this
    simpa [Addr.add] using this
  obtain ⟨b, o, s⟩ := ad
  simp only at hs
  subst hs
  have hb := World.block_lt_of_cell? w _ h0
  rw [add_block] at hb
  refine ⟨b, o, e, hb, fun i x hi => ?_⟩
  obtain ⟨c, hl, hK, hcell⟩ := hc i x hi
  refine ⟨c, hl, hK, fun j u hu => ?_⟩
  have := hcell j u hu
  rwa [add_nat, ← Nat.add_assoc] at this
theorem flat_at {α : Type} {enc : α → List Value} {n : Nat} {hl : ∀ x, (enc x).length = n} {h1 : ∀ x, ∀ u ∈ enc x, u.oneCell' = true} {w : World} {A : Option Addr} {m : Nat} {xs : List α}
    (hn : 0 < n) (h : (flat enc n hl h1).C w A m xs) (hp : 0 < xs.length) : ∃ b o, A = some ⟨b, o, none⟩ ∧ b < w.heap.size ∧ ∀ i x, xs[i]? = some x → ∀ j u, (enc x)[j]? = some u → w.cell? ⟨b, o + i * n + j, none⟩ = some u := by
  obtain ⟨b, o, e, hb, hc⟩ := C_at (d := flat enc n hl h1) hn h hp
  refine ⟨b, o, e, hb, fun i x hi j u hu => ?_⟩
  obtain ⟨c, _, hK, hcell⟩ := hc i x hi
  have hK' : c = enc x := hK
  subst hK'
  exact hcell j u hu
theorem scalar_at {α : Type} {enc : α → Value} {h1 : ∀ x, (enc x).oneCell' = true} {w : World} {A : Option Addr} {m : Nat} {xs : List α}
    (h : (Kd.scalar enc h1).C w A m xs) (hp : 0 < xs.length) : ∃ b o, A = some ⟨b, o, none⟩ ∧ b < w.heap.size ∧ ∀ i x, xs[i]? = some x → w.cell? ⟨b, o + i, none⟩ = some (enc x) := by
  obtain ⟨b, o, e, hb, hc⟩ := C_at (d := Kd.scalar enc h1) (Nat.lt_succ_self 0) h hp
  refine ⟨b, o, e, hb, fun i x hi => ?_⟩
  obtain ⟨c, _, hK, hcell⟩ := hc i x hi
  have hK' : c = [enc x] := hK
  subst hK'
  have := hcell 0 _ rfl
  simpa [Kd.scalar] using this

/-! ### A block that holds known cells -/
def Box (w : World) (b : Nat) (cs : Array Value) : Prop := ∀ j v, cs[j]? = some v → w.cell? ⟨b, j, none⟩ = some v
theorem Box.new (w : World) (cs : Array Value) (t : TypeId) : Box (w.alloc (.cells cs t)) w.heap.size cs := fun j v h => by rw [World.cell?_alloc_new]; exact h
theorem Box.below {w w1 : World} {b : Nat} {cs : Array Value} (h : Box w b cs) (hb : Below w.heap.size w w1) : Box w1 b cs := fun j v hv => pw_cell_below hb (h j v hv)
theorem Box.upto {w w1 : World} {b B : Nat} {cs : Array Value} (h : Box w b cs) (hb : Below B w w1) (hB : b < B) : Box w1 b cs := fun j v hv => (hb.cell (p := ⟨b, j, none⟩) hB).trans (h j v hv)
theorem Box.alloc {w : World} {b : Nat} {cs : Array Value} (h : Box w b cs) (o : Obj) : Box (w.alloc o) b cs := h.below (below_alloc (Below.refl _ _) o)

/-! ### What is found in a list -/
theorem any_snoc {α : Type} {l : List α} {p : α → Bool} {k : Nat} (hk : k < l.length) (h0 : (l.take k).any p = false) (h : p l[k] = false) : (l.take (k + 1)).any p = false := by
  rw [List.take_succ_eq_append_getElem hk, List.any_append, h0]
  simp [h]
theorem find_at {α : Type} {l : List α} {p : α → Bool} {k : Nat} (hk : k < l.length) (h0 : (l.take k).any p = false) (h : p l[k] = true) : l.find? p = some l[k] := by
  have e : l = l.take k ++ l[k] :: l.drop (k + 1) := by rw [List.getElem_cons_drop, List.take_append_drop]
  have h1 : (l.take k).find? p = none := by
    rw [List.find?_eq_none]
    intro x hx hp
    have := List.any_eq_false.1 h0 x hx
    exact this hp
  have : (l.take k ++ l[k] :: l.drop (k + 1)).find? p = some l[k] := by
    rw [List.find?_append, h1, List.find?_cons, h]
    rfl
  rwa [← e] at this
theorem find_no {α : Type} {l : List α} {p : α → Bool} (h0 : l.any p = false) : l.find? p = none := by
  rw [List.find?_eq_none]
  intro x hx hp
  exact List.any_eq_false.1 h0 x hx hp
/-- The place of the first one; -1: none. -/
def idx {α : Type} (p : α → Bool) (l : List α) : Int := match l.findIdx? p with | some i => (i : Int) | none => -1
theorem idx_at {α : Type} {l : List α} {p : α → Bool} {k : Nat} (hk : k < l.length) (h0 : (l.take k).any p = false) (h : p l[k] = true) : idx p l = k := by
  have e : l = l.take k ++ l[k] :: l.drop (k + 1) := by rw [List.getElem_cons_drop, List.take_append_drop]
  have h1 : (l.take k).findIdx? p = none := by
    rw [List.findIdx?_eq_none_iff]
    intro x hx
    have := List.any_eq_false.1 h0 x hx
    simpa using this
  have : (l.take k ++ l[k] :: l.drop (k + 1)).findIdx? p = some k := by
    rw [List.findIdx?_append, h1, List.findIdx?_cons, h]
    simp
    omega
  unfold idx
  rw [e, this]
theorem idx_no {α : Type} {l : List α} {p : α → Bool} (h0 : l.any p = false) : idx p l = -1 := by
  have h1 : l.findIdx? p = none := by
    rw [List.findIdx?_eq_none_iff]
    intro x hx
    have := List.any_eq_false.1 h0 x hx
    simpa using this
  unfold idx
  rw [h1]

/-! ### What most calls come to: a value, and nothing that was there has turned -/
def Ret (v : Value) (w : World) (e : Ending) (w' : World) : Prop := e = .returned v ∧ Below w.heap.size w w'
theorem Ret.of {v v' : Value} {w w' : World} {e : Ending} (h : Ret v w e w') (hv : v = v') : Ret v' w e w' := hv ▸ h

/-- A function with a Go body: a call of it is entered. -/
structure Body (P : Program) (f : Nat) : Prop where run : ∀ (args : Array Value) (W : World), (callFunc f args).run P W = .ok (.enter f args) W

/-! ### A literal read as a row -/
theorem reps_of {α : Type} {R : α → List Value → Prop} {n : Nat} {enc : α → List Value} (hR : ∀ x, R x (enc x)) (hl : ∀ x, (enc x).length = n) : ∀ ps : List α, Reps R n ps (ps.flatMap enc)
  | ps => by
    suffices h : ∀ qs : List α, ∀ pre : List α, Reps R n pre (pre.flatMap enc) → Reps R n (pre ++ qs) ((pre ++ qs).flatMap enc) from by simpa using h ps [] (Reps.none _ _)
    intro qs
    induction qs with
    | nil => intro pre h; simpa using h
    | cons q qs ih =>
      intro pre h
      have h2 := ih (pre ++ [q]) (by rw [List.flatMap_append]; simpa using h.snoc (hR q) (hl q))
      simpa using h2
theorem C_block {α : Type} {d : Kd α} {w : World} {b : Nat} {cs : Array Value} {t : TypeId} {fr : Nat × Nat} (xs : List α) (h : w.heap[b]? = some (.cells cs t fr)) (hr : Reps (d.K w) d.sz xs cs.toList) (hm : xs.length ≤ 9223372036854775807) :
    d.C w (some ⟨b, 0, none⟩) xs.length xs := by
  refine ⟨rfl, hm, fun _ => ⟨_, rfl, fun j p hj => ⟨_, ?_, hr.2 j p hj, fun i u hu => ?_⟩⟩⟩
  · have hjl := (List.getElem?_eq_some_iff.1 hj).1
    have h1 : j * d.sz + d.sz ≤ cs.toList.length := by rw [hr.1, ← Nat.succ_mul]; exact Nat.mul_le_mul_right _ hjl
    rw [List.length_take, List.length_drop]
    omega
  · rw [add_nat, Nat.zero_add]
    rw [List.getElem?_take] at hu
    split at hu
    · rw [List.getElem?_drop] at hu
      simp only [World.cell?, h]
      simpa using hu
    · cases hu
theorem C_lit {α : Type} {d : Kd α} {enc : α → List Value} (w : World) (cs : Array Value) (t : TypeId) (xs : List α) (hmk : ∀ w x, d.K w x (enc x)) (hl : ∀ x, (enc x).length = d.sz) (hcs : cs.toList = xs.flatMap enc) (hm : xs.length ≤ 9223372036854775807) :
    d.C (w.alloc (.cells cs t)) (some ⟨w.heap.size, 0, none⟩) xs.length xs :=
  C_block xs (heap_alloc_new w _) (by rw [hcs]; exact reps_of (hmk _) hl xs) hm

/-- '[]T{}' -/
theorem R_empty {α : Type} (d : Kd α) (w : World) (e base : Nat) (hb : base ≤ w.heap.size) : d.R e (w.alloc (.cells #[] e)) base (fun _ => True) (.slice (some ⟨w.heap.size, 0, none⟩) 0 0) [] := by
  refine ⟨fun _ _ => trivial, [], ?_, Reps.none _ _⟩
  have h2 := World.ownsRow_lit (base := base) (e := e) (size := d.sz) w #[] 0 hb (by simp [maxLen]) (by simp)
  simpa using h2

/-! ### Instructions of classic BPF -/
structure Insn where
  code : Int
  jt : Int
  jf : Int
  k : Int
deriving DecidableEq, Inhabited
def Insn.cells (x : Insn) : List Value := [.int .u16 x.code, .int .u8 x.jt, .int .u8 x.jf, .int .u32 x.k]
def Insn.wf (x : Insn) : Prop := (0 ≤ x.code ∧ x.code < 65536) ∧ (0 ≤ x.jt ∧ x.jt < 256) ∧ (0 ≤ x.jf ∧ x.jf < 256) ∧ (0 ≤ x.k ∧ x.k < 4294967296)
def kInsn : Kd Insn := flat Insn.cells 4 (fun _ => rfl) (by intro x u hu; simp only [Insn.cells, List.mem_cons, List.not_mem_nil, or_false] at hu; rcases hu with rfl | rfl | rfl | rfl <;> rfl)
theorem at_insn {w : World} {A : Option Addr} {n : Nat} {q : List Insn} (h : kInsn.C w A n q) (hp : 0 < q.length) :
    ∃ b o, A = some ⟨b, o, none⟩ ∧ b < w.heap.size ∧ ∀ (i : Nat) (x : Insn), q[i]? = some x → w.cell? ⟨b, o + i * 4, none⟩ = some (.int .u16 x.code) ∧ w.cell? ⟨b, o + i * 4 + 1, none⟩ = some (.int .u8 x.jt)
      ∧ w.cell? ⟨b, o + i * 4 + 2, none⟩ = some (.int .u8 x.jf) ∧ w.cell? ⟨b, o + i * 4 + 3, none⟩ = some (.int .u32 x.k) := by
  obtain ⟨b, o, e, hb, hc⟩ := flat_at (by decide) h hp
  exact ⟨b, o, e, hb, fun i x hi => ⟨hc i x hi 0 _ rfl, hc i x hi 1 _ rfl, hc i x hi 2 _ rfl, hc i x hi 3 _ rfl⟩⟩
end Go.Proofs.Ytkojnaebkgekaaa
