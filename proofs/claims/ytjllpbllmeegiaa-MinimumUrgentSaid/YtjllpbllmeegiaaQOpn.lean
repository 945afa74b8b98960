/- What arguments of the laws' struct types read as. No condition. -/
import Derived.Test.YtjllpbllmeegiaaQx0
import Derived.Test.YtjllpbllmeegiaaOpen
namespace Go.Proofs.Ytjllpbllmeegiaa.Q
open Go.RowKit Go.Proofs.YtjllpbllmeegiaaW.PrintWords Go.Proofs.Ytjllpbllmeegiaa.Opn
def V24 (x : S24) : Prop := ((Lit.int .i64 x.f0).wf = true) ∧ ((Lit.int .i64 x.f1).wf = true)
theorem opn24 : Opn Try.prog 24 k24 V24 := opn_struct Try.underlying24 rfl (by kernel_rfl) (fun x : S24 => (x.f0, x.f1)) (fun y => (⟨y.1, y.2⟩ : S24)) (fun _ => rfl) (opn_cons rfl (by kernel_rfl) (opn_int Try.underlying3) (opn_last rfl (by kernel_rfl) (opn_int Try.underlying2)))
def V26 (x : S26) : Prop := (x.f0.size ≤ 140737488351232) ∧ ((Lit.int .i64 x.f1).wf = true) ∧ ((Lit.int .i64 x.f2).wf = true) ∧ (x.f3.size ≤ 140737488351232) ∧ ((Lit.int .i64 x.f4).wf = true) ∧ ((Lit.int .i64 x.f5).wf = true) ∧ ((Lit.int .i64 x.f6).wf = true) ∧ (x.f7.length * 16 ≤ 140737488351232 ∧ ∀ y ∈ x.f7, y.size ≤ 140737488351232) ∧ (V24 x.f8) ∧ ((Lit.int .i64 x.f9).wf = true) ∧ ((Lit.int .i64 x.f10).wf = true)
theorem opn26 : Opn Try.prog 26 k26 V26 := opn_struct Try.underlying26 rfl (by kernel_rfl) (fun x : S26 => (x.f0, x.f1, x.f2, x.f3, x.f4, x.f5, x.f6, x.f7, x.f8, x.f9, x.f10)) (fun y => (⟨y.1, y.2.1, y.2.2.1, y.2.2.2.1, y.2.2.2.2.1, y.2.2.2.2.2.1, y.2.2.2.2.2.2.1, y.2.2.2.2.2.2.2.1, y.2.2.2.2.2.2.2.2.1, y.2.2.2.2.2.2.2.2.2.1, y.2.2.2.2.2.2.2.2.2.2⟩ : S26)) (fun _ => rfl) (opn_cons rfl (by kernel_rfl) (opn_string Try.underlying9) (opn_cons rfl (by kernel_rfl) (opn_int Try.underlying3) (opn_cons rfl (by kernel_rfl) (opn_int Try.underlying3) (opn_cons rfl (by kernel_rfl) (opn_string Try.underlying9) (opn_cons rfl (by kernel_rfl) (opn_int Try.underlying2) (opn_cons rfl (by kernel_rfl) (opn_int Try.underlying2) (opn_cons rfl (by kernel_rfl) (opn_int Try.underlying2) (opn_cons rfl (by kernel_rfl) (opn_slice (B := 16) Try.underlying22 (by kernel_rfl) (by kernel_rfl) (opn_string Try.underlying9)) (opn_cons rfl (by kernel_rfl) opn24 (opn_cons rfl (by kernel_rfl) (opn_int Try.underlying3) (opn_last rfl (by kernel_rfl) (opn_int Try.underlying3))))))))))))
def V28 (x : S28) : Prop := (V24 x.f0) ∧ ((Lit.int .i64 x.f1).wf = true)
theorem opn28 : Opn Try.prog 28 k28 V28 := opn_struct Try.underlying28 rfl (by kernel_rfl) (fun x : S28 => (x.f0, x.f1)) (fun y => (⟨y.1, y.2⟩ : S28)) (fun _ => rfl) (opn_cons rfl (by kernel_rfl) opn24 (opn_last rfl (by kernel_rfl) (opn_int Try.underlying3)))
def V30 (x : S30) : Prop := ((Lit.int .i64 x.f0).wf = true) ∧ (V24 x.f1)
theorem opn30 : Opn Try.prog 30 k30 V30 := opn_struct Try.underlying30 rfl (by kernel_rfl) (fun x : S30 => (x.f0, x.f1)) (fun y => (⟨y.1, y.2⟩ : S30)) (fun _ => rfl) (opn_cons rfl (by kernel_rfl) (opn_int Try.underlying3) (opn_last rfl (by kernel_rfl) opn24))
def V32 (x : S32) : Prop := ((Lit.int .i64 x.f0).wf = true) ∧ (V30 x.f1)
theorem opn32 : Opn Try.prog 32 k32 V32 := opn_struct Try.underlying32 rfl (by kernel_rfl) (fun x : S32 => (x.f0, x.f1)) (fun y => (⟨y.1, y.2⟩ : S32)) (fun _ => rfl) (opn_cons rfl (by kernel_rfl) (opn_int Try.underlying3) (opn_last rfl (by kernel_rfl) opn30))
end Go.Proofs.Ytjllpbllmeegiaa.Q
