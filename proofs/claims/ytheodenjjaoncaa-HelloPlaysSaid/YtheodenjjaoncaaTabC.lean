/- Contracts of functions that the laws reach, on abstract values, and what they need: no conditions but those that each theorem states. -/
import Derived.Test.YtheodenjjaoncaaTabA
import Derived.Test.YtheodenjjaoncaaSlO
set_option linter.unusedVariables false
set_option linter.unusedSimpArgs false
set_option linter.defProp false
namespace Go.Proofs
open Go Go.SL
theorem cal.f27 : Cal Try.prog 27 := ⟨Try.f27, by kernel_rfl, rfl, by kernel_rfl⟩
theorem cal.f48 : Cal Try.prog 48 := ⟨Try.f48, by kernel_rfl, rfl, by kernel_rfl⟩
theorem cal.f50 : Cal Try.prog 50 := ⟨Try.f50, by kernel_rfl, rfl, by kernel_rfl⟩
theorem cal.f51 : Cal Try.prog 51 := ⟨Try.f51, by kernel_rfl, rfl, by kernel_rfl⟩
theorem cal.f52 : Cal Try.prog 52 := ⟨Try.f52, by kernel_rfl, rfl, by kernel_rfl⟩
theorem cal.f53 : Cal Try.prog 53 := ⟨Try.f53, by kernel_rfl, rfl, by kernel_rfl⟩
theorem cal.f54 : Cal Try.prog 54 := ⟨Try.f54, by kernel_rfl, rfl, by kernel_rfl⟩
theorem cal.f55 : Cal Try.prog 55 := ⟨Try.f55, by kernel_rfl, rfl, by kernel_rfl⟩
theorem cal.f56 : Cal Try.prog 56 := ⟨Try.f56, by kernel_rfl, rfl, by kernel_rfl⟩
theorem cal.f57 : Cal Try.prog 57 := ⟨Try.f57, by kernel_rfl, rfl, by kernel_rfl⟩
theorem cal.f58 : Cal Try.prog 58 := ⟨Try.f58, by kernel_rfl, rfl, by kernel_rfl⟩
theorem cal.f59 : Cal Try.prog 59 := ⟨Try.f59, by kernel_rfl, rfl, by kernel_rfl⟩
theorem cal.f92 : Cal Try.prog 92 := ⟨Try.f92, by kernel_rfl, rfl, by kernel_rfl⟩
theorem cal.f93 : Cal Try.prog 93 := ⟨Try.f93, by kernel_rfl, rfl, by kernel_rfl⟩
theorem cal.f95 : Cal Try.prog 95 := ⟨Try.f95, by kernel_rfl, rfl, by kernel_rfl⟩
theorem cal.f96 : Cal Try.prog 96 := ⟨Try.f96, by kernel_rfl, rfl, by kernel_rfl⟩
theorem cal.f97 : Cal Try.prog 97 := ⟨Try.f97, by kernel_rfl, rfl, by kernel_rfl⟩
theorem cal.f98 : Cal Try.prog 98 := ⟨Try.f98, by kernel_rfl, rfl, by kernel_rfl⟩
theorem cal.f99 : Cal Try.prog 99 := ⟨Try.f99, by kernel_rfl, rfl, by kernel_rfl⟩
theorem cal.f100 : Cal Try.prog 100 := ⟨Try.f100, by kernel_rfl, rfl, by kernel_rfl⟩
theorem cal.f101 : Cal Try.prog 101 := ⟨Try.f101, by kernel_rfl, rfl, by kernel_rfl⟩
theorem cal.f102 : Cal Try.prog 102 := ⟨Try.f102, by kernel_rfl, rfl, by kernel_rfl⟩
theorem cal.f103 : Cal Try.prog 103 := ⟨Try.f103, by kernel_rfl, rfl, by kernel_rfl⟩
theorem cal.f104 : Cal Try.prog 104 := ⟨Try.f104, by kernel_rfl, rfl, by kernel_rfl⟩
theorem cal.f105 : Cal Try.prog 105 := ⟨Try.f105, by kernel_rfl, rfl, by kernel_rfl⟩
theorem cal.f106 : Cal Try.prog 106 := ⟨Try.f106, by kernel_rfl, rfl, by kernel_rfl⟩
theorem cal.f107 : Cal Try.prog 107 := ⟨Try.f107, by kernel_rfl, rfl, by kernel_rfl⟩
theorem cal.f108 : Cal Try.prog 108 := ⟨Try.f108, by kernel_rfl, rfl, by kernel_rfl⟩
theorem cal.f109 : Cal Try.prog 109 := ⟨Try.f109, by kernel_rfl, rfl, by kernel_rfl⟩
theorem cal.f110 : Cal Try.prog 110 := ⟨Try.f110, by kernel_rfl, rfl, by kernel_rfl⟩
theorem cal.f111 : Cal Try.prog 111 := ⟨Try.f111, by kernel_rfl, rfl, by kernel_rfl⟩
theorem cal.f112 : Cal Try.prog 112 := ⟨Try.f112, by kernel_rfl, rfl, by kernel_rfl⟩
theorem cal.f113 : Cal Try.prog 113 := ⟨Try.f113, by kernel_rfl, rfl, by kernel_rfl⟩
theorem cal.f119 : Cal Try.prog 119 := ⟨Try.f119, by kernel_rfl, rfl, by kernel_rfl⟩
theorem cal.f123 : Cal Try.prog 123 := ⟨Try.f123, by kernel_rfl, rfl, by kernel_rfl⟩
theorem cal.f136 : Cal Try.prog 136 := ⟨Try.f136, by kernel_rfl, rfl, by kernel_rfl⟩
theorem cal.f137 : Cal Try.prog 137 := ⟨Try.f137, by kernel_rfl, rfl, by kernel_rfl⟩
theorem cal.f138 : Cal Try.prog 138 := ⟨Try.f138, by kernel_rfl, rfl, by kernel_rfl⟩
theorem cal.f139 : Cal Try.prog 139 := ⟨Try.f139, by kernel_rfl, rfl, by kernel_rfl⟩
theorem cal.f140 : Cal Try.prog 140 := ⟨Try.f140, by kernel_rfl, rfl, by kernel_rfl⟩
theorem cal.f141 : Cal Try.prog 141 := ⟨Try.f141, by kernel_rfl, rfl, by kernel_rfl⟩
theorem cal.f142 : Cal Try.prog 142 := ⟨Try.f142, by kernel_rfl, rfl, by kernel_rfl⟩
theorem cal.f167 : Cal Try.prog 167 := ⟨Try.f167, by kernel_rfl, rfl, by kernel_rfl⟩
theorem cal.f171 : Cal Try.prog 171 := ⟨Try.f171, by kernel_rfl, rfl, by kernel_rfl⟩
end Go.Proofs
