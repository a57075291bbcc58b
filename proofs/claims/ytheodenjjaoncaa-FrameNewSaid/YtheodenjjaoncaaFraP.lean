/- Contracts of functions that the laws reach, on abstract values, and what they need: no conditions but those that each theorem states. -/
import Derived.Test.YtheodenjjaoncaaFixP
import Derived.Test.YtheodenjjaoncaaEncR
import Derived.Test.YtheodenjjaoncaaDecP2
set_option linter.unusedVariables false
set_option linter.unusedSimpArgs false
set_option linter.defProp false
namespace Go.Proofs
open Go Go.SL
set_option maxRecDepth 100000
theorem bytes_len (F : Frm) (h : good F) : (bytesB F).length ≤ 100000 := by
  obtain ⟨h1, h2, hf, _⟩ := h
  have hkk := form_le F.k (by omega)
  unfold bytesB
  have : F.k = 1 ∨ F.k = 2 ∨ F.k = 3 ∨ F.k = 4 ∨ F.k = 5 ∨ F.k = 6 ∨ F.k = 7 ∨ F.k = 8 ∨ F.k = 9 ∨ F.k = 10 ∨ F.k = 11 ∨ F.k = 12 := by omega
  rcases this with e | e | e | e | e | e | e | e | e | e | e | e <;> rw [e] at hf hkk ⊢ <;> simp only [fits] at hf
  · have n_fi := N_le F.fi (by omega); have n_fn := N_le F.fn (by omega); have n_ti := N_le F.ti (by omega); have n_tn := N_le F.tn (by omega)
    simp only [bodyB, List.length_append, iB_length]
    omega
  · have n_fi := N_le F.fi (by omega); have n_fn := N_le F.fn (by omega); have n_ti := N_le F.ti (by omega); have n_tn := N_le F.tn (by omega); have n_n := N_le F.n (by omega); have f_tx := form_le F.tx.length (by omega)
    simp only [bodyB, List.length_append, txB]
    omega
  · have n_fi := N_le F.fi (by omega); have n_fn := N_le F.fn (by omega); have n_ti := N_le F.ti (by omega); have n_tn := N_le F.tn (by omega); have n_n := N_le F.n (by omega)
    simp only [bodyB, List.length_append]
    omega
  · have n_pn := N_le F.pn (by omega); have htr : ∀ v ∈ F.tr, 0 ≤ v ∧ v < 6 := hf.2.2; have l_tr := legB_len F.tr (fun v hv => by have := htr v hv; omega); have f_tr := form_le F.tr.length (by omega)
    simp only [bodyB, List.length_append, iB_length]
    omega
  · have n_pn := N_le F.pn (by omega)
    simp only [bodyB, List.length_append, iB_length]
    omega
  · have n_pn := N_le F.pn (by omega); have f_fl : (flB F.toA).length ≤ 9 := by cases F.toA <;> decide
    simp only [bodyB, List.length_append, iB_length]
    omega
  · have n_pn := N_le F.pn (by omega); have l_is := idsB_length F.is; have f_is := form_le F.is.length (by omega); have f_fl : (flB F.toA).length ≤ 9 := by cases F.toA <;> decide
    simp only [bodyB, List.length_append, iB_length]
    omega
  · have n_pn := N_le F.pn (by omega); have n_op := N_le F.op (by omega); have htr : ∀ v ∈ F.tr, 0 ≤ v ∧ v < 6 := hf.2.1.2; have l_tr := legB_len F.tr (fun v hv => by have := htr v hv; omega); have f_tr := form_le F.tr.length (by omega); have f_fl : (flB F.toA).length ≤ 9 := by cases F.toA <;> decide
    simp only [bodyB, List.length_append, iB_length]
    omega
  · have n_n := N_le F.n (by omega)
    simp only [bodyB, List.length_append, iB_length]
    omega
  · have n_n := N_le F.n (by omega); have n_vn := N_le F.vn (by omega); have n_op := N_le F.op (by omega); have n_ttl := N_le F.ttl (by omega); have f_tx := form_le F.tx.length (by omega); have f_val := form_le F.val.length (by omega)
    simp only [bodyB, List.length_append, iB_length, txB]
    omega
  · have n_pn := N_le F.pn (by omega); have n_vn := N_le F.vn (by omega); have f_val := form_le F.val.length (by omega); have f_fl : (flB F.toA).length ≤ 9 := by cases F.toA <;> decide
    simp only [bodyB, List.length_append, iB_length, txB]
    omega
  · have n_pn := N_le F.pn (by omega); have n_vn := N_le F.vn (by omega); have f_fl : (flB F.toA).length ≤ 9 := by cases F.toA <;> decide
    simp only [bodyB, List.length_append, iB_length]
    omega
end Go.Proofs
namespace Go.Proofs
open Go Go.SL
set_option maxRecDepth 100000
end Go.Proofs
