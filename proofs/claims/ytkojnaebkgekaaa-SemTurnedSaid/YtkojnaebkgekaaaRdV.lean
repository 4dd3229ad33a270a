/- Layer 6's reader (the document's): verdict. -/
import Derived.Test.YtkojnaebkgekaaaRdS
set_option linter.unusedVariables false
namespace Go.Proofs.Ytkojnaebkgekaaa
open Go.RowKit Go.Proofs.YtkojnaebkgekaaaW.PrintWords
theorem verdict_calls (w0 W : World) (g : Nat) (s : Rd) (hI : RdAt w0 W g s) (v : Verdict) (s' : Rd) (h : verdictS s = some (v, s')) : Calls Try.prog 114 #[.pointer (some ⟨g, 0, none⟩)] W (Did w0 W g (verV v) s') := by
  unfold verdictS at h
  obtain ⟨⟨t, s1⟩, ht, h1⟩ := Option.bind_eq_some_iff.1 h
  clear h
  dsimp only at h1
  by_cases hx : s1.x = 0
  · rw [if_pos hx] at h1
    split at h1
    · rename_i hn
      simp only [Option.some.injEq, Prod.mk.injEq] at h1
      obtain ⟨rfl, rfl⟩ := h1
      exact verdict_kill_process w0 W g s hI t s1 ht hx hn
    · split at h1
      · rename_i hn
        simp only [Option.some.injEq, Prod.mk.injEq] at h1
        obtain ⟨rfl, rfl⟩ := h1
        exact verdict_log w0 W g s hI t s1 ht hx hn
      · split at h1
        · rename_i hn
          simp only [Option.some.injEq, Prod.mk.injEq] at h1
          obtain ⟨rfl, rfl⟩ := h1
          exact verdict_allow w0 W g s hI t s1 ht hx hn
        · split at h1
          · rename_i hn
            obtain ⟨⟨n, s2⟩, hk, h2⟩ := Option.map_eq_some_iff.1 h1
            simp only [Prod.mk.injEq] at h2
            obtain ⟨rfl, rfl⟩ := h2
            exact verdict_errno w0 W g s hI t n s1 s2 ht hx hn hk
          · cases h1
  · rw [if_neg hx] at h1
    cases h1
end Go.Proofs.Ytkojnaebkgekaaa
