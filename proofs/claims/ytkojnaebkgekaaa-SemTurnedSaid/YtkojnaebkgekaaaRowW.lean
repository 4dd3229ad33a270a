/- A structure loaded from, or stored into, a block of its own: one step, whatever its size. -/
import Derived.Test.YtkojnaebkgekaaaRdA
import Derived.Laws.Tables
import Derived.Laws.CopyOwn
import Derived.Deep.MidRow
set_option linter.unusedVariables false
set_option linter.unusedSimpArgs false
namespace Go.Proofs.Ytkojnaebkgekaaa
open Go.RowKit Go.Proofs.YtkojnaebkgekaaaW.PrintWords
section
variable {P : Program} {ops : Array Oper} {rest : List Oper} {o : Oper} {a : Act} {w : World} {Q : Exit → Act → World → Prop}
theorem wpl_store (ty : TypeId) (x y : Operand) (g : Nat) (cells : Array Value) (t : TypeId) (old : Array Value) (hgd : o.guard = none) (ho : o.op = .store ty x y)
    (hx : a.eval x = .pointer (some ⟨g, 0, none⟩)) (hy : a.eval y = .agg cells) (hg : w.heap[g]? = some (.cells old t (0, 0))) (hi : (P.info? ty).map (·.size) = some cells.size)
    (hold : old.size = cells.size) (h1 : cells.all (·.oneCell') = true)
    (h : wpList P ops Q rest (a.put o.dst undef) (w.setRow g cells)) : wpList P ops Q (o :: rest) a w :=
  wpList_plain hgd fun _ hK => wp_store_row ty x y ho g cells hx hy t old hg hi hold h1 (hK _ _ h)
theorem wpl_load (ty : TypeId) (x : Operand) (g : Nat) (cs : Array Value) (t : TypeId) (fr : Nat × Nat) (d : TypeDesc) (hgd : o.guard = none) (ho : o.op = .load ty x)
    (hx : a.eval x = .pointer (some ⟨g, 0, none⟩)) (hg : w.heap[g]? = some (.cells cs t fr)) (hu : P.underlying ty = some d) (hd : (match d with | .struct _ | .array _ _ => true | _ => false) = true) (hi : (P.info? ty).map (·.size) = some cs.size)
    (h : wpList P ops Q rest (a.put o.dst (.agg cs)) w) : wpList P ops Q (o :: rest) a w := by
  refine wpList_plain hgd fun K hK => ?_
  unfold Oper.wp execOp
  simp only [ho, hx, Instr.loadAt, Instr.sureAddr, Sem.run_bind, Sem.run_pure, Result.andThen_ok, run_loadVar_row w g t ty cs fr d hg hu hd hi]
  exact hK _ _ h
end
/-- w1 is w, but for the cells of block g. -/
def Rowed (w : World) (g : Nat) (t : TypeId) (cells : Array Value) (w1 : World) : Prop := w1 = w.setRow g cells ∧ w1.heap[g]? = some (.cells cells t (0, 0))
theorem wpl_storeW {P : Program} {ops : Array Oper} {rest : List Oper} {o : Oper} {a : Act} {w : World} {Q : Exit → Act → World → Prop} (ty : TypeId) (x y : Operand) (g : Nat) (cells : Array Value) (t : TypeId) (old : Array Value) (hgd : o.guard = none) (ho : o.op = .store ty x y)
    (hx : a.eval x = .pointer (some ⟨g, 0, none⟩)) (hy : a.eval y = .agg cells) (hg : w.heap[g]? = some (.cells old t (0, 0))) (hi : (P.info? ty).map (·.size) = some cells.size)
    (hold : old.size = cells.size) (h1 : cells.all (·.oneCell') = true)
    (h : ∀ w1, Rowed w g t cells w1 → wpList P ops Q rest (a.put o.dst undef) w1) : wpList P ops Q (o :: rest) a w :=
  wpl_store ty x y g cells t old hgd ho hx hy hg hi hold h1 (h _ ⟨rfl, setRow_heap _ _ _ _ _ _ hg⟩)
theorem Rowed.size {w w1 : World} {g : Nat} {t : TypeId} {cells : Array Value} (h : Rowed w g t cells w1) : w1.heap.size = w.heap.size := by obtain ⟨rfl, _⟩ := h; exact setRow_size _ _ _
theorem Rowed.blk {w w1 : World} {g k : Nat} {t : TypeId} {cells : Array Value} {o : Obj} (h : Rowed w g t cells w1) (hb : w.heap[k]? = some o) (hne : k ≠ g) : w1.heap[k]? = some o := by obtain ⟨rfl, _⟩ := h; exact (setRow_other w g k cells hne).trans hb
theorem keep_row {w W : World} {g : Nat} {row : Option Nat} (h : KeepBut w W g row) {k : Nat} (hp : w.heap.size ≤ k) (cs : Array Value) : KeepBut w (W.setRow k cs) g row :=
  ⟨by rw [setRow_size]; exact h.1, fun i hi hg hr => (setRow_other W k i cs (by omega)).trans (h.2 i hi hg hr)⟩
theorem blk_row {w : World} {k g : Nat} {o : Obj} (h : w.heap[k]? = some o) (hne : k ≠ g) (cs : Array Value) : (w.setRow g cs).heap[k]? = some o := (setRow_other w g k cs hne).trans h
theorem RdAt.row {w0 W : World} {g : Nat} {s : Rd} (h : RdAt w0 W g s) {k : Nat} (hne : k ≠ g) (hl : w0.heap.size ≤ k) (cs : Array Value) : RdAt w0 (W.setRow k cs) g s := by
  obtain ⟨A, c, hC, hg, hB, hh⟩ := h
  exact ⟨A, c, hC, hg, below_setRow hB hl cs, (setRow_other W k g cs (Ne.symm hne)).trans hh⟩
def putAll (cur : Array Value) : Nat → List Value → Array Value
  | _, [] => cur
  | o, v :: vs => putAll (cur.setIfInBounds o v) (o + 1) vs
theorem setCells_putAll {g : Nat} {t : TypeId} {fr : Nat × Nat} : ∀ (vs : List Value) (v : Value) (o : Nat) (w : World) (cur : Array Value), w.heap[g]? = some (.cells cur t fr) → w.setCells g o (v :: vs) = w.setRow g (putAll cur o (v :: vs))
  | [], v, o, w, cur, h => setCell_eq_setRow w g o cur t fr v h
  | u :: vs, v, o, w, cur, h => by
    show (w.setCell ⟨g, o, none⟩ v).setCells g (o + 1) (u :: vs) = _
    rw [setCell_eq_setRow w g o cur t fr v h, setCells_putAll vs u (o + 1) _ (cur.setIfInBounds o v) (setRow_heap _ _ _ _ _ _ h), setRow_setRow]
    rfl
/-- A structure stored into a part of a block. -/
theorem wpl_storeM {P : Program} {ops : Array Oper} {rest : List Oper} {o : Oper} {a : Act} {w : World} {Q : Exit → Act → World → Prop} (ty : TypeId) (x y : Operand) (g f : Nat) (v : Value) (vs : List Value) (t : TypeId) (old new : Array Value) (hgd : o.guard = none) (ho : o.op = .store ty x y)
    (hx : a.eval x = .pointer (some ⟨g, f, none⟩)) (hy : a.eval y = .agg (v :: vs).toArray) (hg : w.heap[g]? = some (.cells old t (0, 0))) (hi : (P.info? ty).map (·.size) = some (v :: vs).toArray.size)
    (hold : f + (v :: vs).length ≤ old.size) (h1 : (v :: vs).toArray.all (·.oneCell') = true) (hnew : putAll old f (v :: vs) = new)
    (h : ∀ w1, Rowed w g t new w1 → wpList P ops Q rest (a.put o.dst undef) w1) : wpList P ops Q (o :: rest) a w := by
  refine wpList_store_mid hgd ty x y ho g f (v :: vs).toArray hx hy (fun j hj => ?_) hi h1 ?_
  · have hj' : f + j < old.size := by simp at hj hold; omega
    refine ⟨?_, ?_⟩
    · rw [World.cell?, hg]
      simp [hj']
    · simp [World.frozen?, hg]
  · have e := setCells_putAll vs v f w old hg
    rw [hnew] at e
    exact h _ ⟨e, by show (w.setCells g f (v :: vs)).heap[g]? = _; rw [e]; exact setRow_heap _ _ _ _ _ _ hg⟩
theorem RdAt.rowed {w0 W w1 : World} {g k : Nat} {s : Rd} {t : TypeId} {cells : Array Value} (h : RdAt w0 W g s) (hr : Rowed W k t cells w1) (hne : k ≠ g) (hl : w0.heap.size ≤ k) : RdAt w0 w1 g s := by obtain ⟨rfl, _⟩ := hr; exact h.row hne hl _
theorem Rowed.keep {w W w1 : World} {g k : Nat} {row : Option Nat} {t : TypeId} {cells : Array Value} (hr : Rowed W k t cells w1) (h : KeepBut w W g row) (hp : w.heap.size ≤ k) : KeepBut w w1 g row := by obtain ⟨rfl, _⟩ := hr; exact keep_row h hp _
end Go.Proofs.Ytkojnaebkgekaaa
