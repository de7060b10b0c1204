/-
  Reckoning in the S-forms: rows of cells, whatever they are.
-/
import Derived.Test.YtochkdifpgelmaaB2
set_option linter.unusedVariables false
set_option linter.unusedSimpArgs false
namespace Go.Ab

/-- n cells, as they are. -/
def cellR (n : Nat) (hn : 0 < n) : Rp (List AVal) where
  n := n
  pos := hn
  rep := fun _ cs x => cs = x ∧ cs.length = n ∧ cs.all AVal.one = true
  len := fun h => h.2.1
  one := fun h => h.2.2
  ext := fun h _ => h
theorem ixp_at {len z b o : Nat} {i : Nat} (h : i < len) : ixpR len z (.ptr b o) (.int .i64 (i : Int)) = some (.ptr b (o + i * z)) := by
  simp only [ixpR]
  rw [if_pos ⟨by omega, by omega⟩]
  simp
end Go.Ab
