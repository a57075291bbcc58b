/- Contracts of functions that the laws reach, on abstract values, and what they need: no conditions but those that each theorem states. -/
import Derived.Test.YtheodenjjaoncaaTabA
import Derived.Test.YtheodenjjaoncaaSlO
set_option linter.unusedVariables false
set_option linter.unusedSimpArgs false
set_option linter.defProp false
namespace Go.Proofs
open Go Go.SL
theorem cal.f26 : Cal Try.prog 26 := ⟨Try.f26, by kernel_rfl, rfl, by kernel_rfl⟩
theorem cal.f48 : Cal Try.prog 48 := ⟨Try.f48, by kernel_rfl, rfl, by kernel_rfl⟩
theorem cal.f50 : Cal Try.prog 50 := ⟨Try.f50, by kernel_rfl, rfl, by kernel_rfl⟩
theorem cal.f52 : Cal Try.prog 52 := ⟨Try.f52, by kernel_rfl, rfl, by kernel_rfl⟩
theorem cal.f54 : Cal Try.prog 54 := ⟨Try.f54, by kernel_rfl, rfl, by kernel_rfl⟩
theorem cal.f56 : Cal Try.prog 56 := ⟨Try.f56, by kernel_rfl, rfl, by kernel_rfl⟩
theorem cal.f59 : Cal Try.prog 59 := ⟨Try.f59, by kernel_rfl, rfl, by kernel_rfl⟩
theorem cal.f92 : Cal Try.prog 92 := ⟨Try.f92, by kernel_rfl, rfl, by kernel_rfl⟩
theorem cal.f93 : Cal Try.prog 93 := ⟨Try.f93, by kernel_rfl, rfl, by kernel_rfl⟩
theorem cal.f94 : Cal Try.prog 94 := ⟨Try.f94, by kernel_rfl, rfl, by kernel_rfl⟩
theorem cal.f96 : Cal Try.prog 96 := ⟨Try.f96, by kernel_rfl, rfl, by kernel_rfl⟩
theorem cal.f98 : Cal Try.prog 98 := ⟨Try.f98, by kernel_rfl, rfl, by kernel_rfl⟩
theorem cal.f100 : Cal Try.prog 100 := ⟨Try.f100, by kernel_rfl, rfl, by kernel_rfl⟩
theorem cal.f102 : Cal Try.prog 102 := ⟨Try.f102, by kernel_rfl, rfl, by kernel_rfl⟩
theorem cal.f106 : Cal Try.prog 106 := ⟨Try.f106, by kernel_rfl, rfl, by kernel_rfl⟩
theorem cal.f109 : Cal Try.prog 109 := ⟨Try.f109, by kernel_rfl, rfl, by kernel_rfl⟩
theorem cal.f110 : Cal Try.prog 110 := ⟨Try.f110, by kernel_rfl, rfl, by kernel_rfl⟩
theorem cal.f113 : Cal Try.prog 113 := ⟨Try.f113, by kernel_rfl, rfl, by kernel_rfl⟩
theorem cal.f119 : Cal Try.prog 119 := ⟨Try.f119, by kernel_rfl, rfl, by kernel_rfl⟩
theorem cal.f123 : Cal Try.prog 123 := ⟨Try.f123, by kernel_rfl, rfl, by kernel_rfl⟩
theorem cal.f133 : Cal Try.prog 133 := ⟨Try.f133, by kernel_rfl, rfl, by kernel_rfl⟩
theorem cal.f134 : Cal Try.prog 134 := ⟨Try.f134, by kernel_rfl, rfl, by kernel_rfl⟩
theorem cal.f135 : Cal Try.prog 135 := ⟨Try.f135, by kernel_rfl, rfl, by kernel_rfl⟩
theorem cal.f136 : Cal Try.prog 136 := ⟨Try.f136, by kernel_rfl, rfl, by kernel_rfl⟩
theorem cal.f140 : Cal Try.prog 140 := ⟨Try.f140, by kernel_rfl, rfl, by kernel_rfl⟩
theorem cal.f141 : Cal Try.prog 141 := ⟨Try.f141, by kernel_rfl, rfl, by kernel_rfl⟩
theorem cal.f171 : Cal Try.prog 171 := ⟨Try.f171, by kernel_rfl, rfl, by kernel_rfl⟩
end Go.Proofs
