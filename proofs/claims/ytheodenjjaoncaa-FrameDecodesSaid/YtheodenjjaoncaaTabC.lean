/- Contracts of functions that the laws reach, on abstract values, and what they need: no conditions but those that each theorem states. -/
import Derived.Test.YtheodenjjaoncaaTabA
import Derived.Test.YtheodenjjaoncaaSlO
set_option linter.unusedVariables false
set_option linter.unusedSimpArgs false
set_option linter.defProp false
namespace Go.Proofs
open Go Go.SL
theorem cal.f2 : Cal Try.prog 2 := ⟨Try.f2, by kernel_rfl, rfl, by kernel_rfl⟩
theorem cal.f3 : Cal Try.prog 3 := ⟨Try.f3, by kernel_rfl, rfl, by kernel_rfl⟩
theorem cal.f30 : Cal Try.prog 30 := ⟨Try.f30, by kernel_rfl, rfl, by kernel_rfl⟩
theorem cal.f42 : Cal Try.prog 42 := ⟨Try.f42, by kernel_rfl, rfl, by kernel_rfl⟩
theorem cal.f44 : Cal Try.prog 44 := ⟨Try.f44, by kernel_rfl, rfl, by kernel_rfl⟩
theorem cal.f66 : Cal Try.prog 66 := ⟨Try.f66, by kernel_rfl, rfl, by kernel_rfl⟩
theorem cal.f67 : Cal Try.prog 67 := ⟨Try.f67, by kernel_rfl, rfl, by kernel_rfl⟩
theorem cal.f68 : Cal Try.prog 68 := ⟨Try.f68, by kernel_rfl, rfl, by kernel_rfl⟩
theorem cal.f69 : Cal Try.prog 69 := ⟨Try.f69, by kernel_rfl, rfl, by kernel_rfl⟩
theorem cal.f70 : Cal Try.prog 70 := ⟨Try.f70, by kernel_rfl, rfl, by kernel_rfl⟩
theorem cal.f104 : Cal Try.prog 104 := ⟨Try.f104, by kernel_rfl, rfl, by kernel_rfl⟩
theorem cal.f114 : Cal Try.prog 114 := ⟨Try.f114, by kernel_rfl, rfl, by kernel_rfl⟩
theorem cal.f116 : Cal Try.prog 116 := ⟨Try.f116, by kernel_rfl, rfl, by kernel_rfl⟩
theorem cal.f117 : Cal Try.prog 117 := ⟨Try.f117, by kernel_rfl, rfl, by kernel_rfl⟩
theorem cal.f118 : Cal Try.prog 118 := ⟨Try.f118, by kernel_rfl, rfl, by kernel_rfl⟩
theorem cal.f119 : Cal Try.prog 119 := ⟨Try.f119, by kernel_rfl, rfl, by kernel_rfl⟩
theorem cal.f121 : Cal Try.prog 121 := ⟨Try.f121, by kernel_rfl, rfl, by kernel_rfl⟩
theorem cal.f123 : Cal Try.prog 123 := ⟨Try.f123, by kernel_rfl, rfl, by kernel_rfl⟩
theorem cal.f139 : Cal Try.prog 139 := ⟨Try.f139, by kernel_rfl, rfl, by kernel_rfl⟩
theorem cal.f143 : Cal Try.prog 143 := ⟨Try.f143, by kernel_rfl, rfl, by kernel_rfl⟩
theorem cal.f144 : Cal Try.prog 144 := ⟨Try.f144, by kernel_rfl, rfl, by kernel_rfl⟩
theorem cal.f145 : Cal Try.prog 145 := ⟨Try.f145, by kernel_rfl, rfl, by kernel_rfl⟩
theorem cal.f146 : Cal Try.prog 146 := ⟨Try.f146, by kernel_rfl, rfl, by kernel_rfl⟩
theorem cal.f151 : Cal Try.prog 151 := ⟨Try.f151, by kernel_rfl, rfl, by kernel_rfl⟩
theorem cal.f152 : Cal Try.prog 152 := ⟨Try.f152, by kernel_rfl, rfl, by kernel_rfl⟩
theorem cal.f153 : Cal Try.prog 153 := ⟨Try.f153, by kernel_rfl, rfl, by kernel_rfl⟩
theorem cal.f154 : Cal Try.prog 154 := ⟨Try.f154, by kernel_rfl, rfl, by kernel_rfl⟩
theorem cal.f155 : Cal Try.prog 155 := ⟨Try.f155, by kernel_rfl, rfl, by kernel_rfl⟩
theorem cal.f156 : Cal Try.prog 156 := ⟨Try.f156, by kernel_rfl, rfl, by kernel_rfl⟩
theorem cal.f157 : Cal Try.prog 157 := ⟨Try.f157, by kernel_rfl, rfl, by kernel_rfl⟩
theorem cal.f158 : Cal Try.prog 158 := ⟨Try.f158, by kernel_rfl, rfl, by kernel_rfl⟩
theorem cal.f159 : Cal Try.prog 159 := ⟨Try.f159, by kernel_rfl, rfl, by kernel_rfl⟩
theorem cal.f160 : Cal Try.prog 160 := ⟨Try.f160, by kernel_rfl, rfl, by kernel_rfl⟩
theorem cal.f161 : Cal Try.prog 161 := ⟨Try.f161, by kernel_rfl, rfl, by kernel_rfl⟩
theorem cal.f162 : Cal Try.prog 162 := ⟨Try.f162, by kernel_rfl, rfl, by kernel_rfl⟩
theorem cal.f163 : Cal Try.prog 163 := ⟨Try.f163, by kernel_rfl, rfl, by kernel_rfl⟩
theorem cal.f164 : Cal Try.prog 164 := ⟨Try.f164, by kernel_rfl, rfl, by kernel_rfl⟩
theorem cal.f165 : Cal Try.prog 165 := ⟨Try.f165, by kernel_rfl, rfl, by kernel_rfl⟩
theorem cal.f166 : Cal Try.prog 166 := ⟨Try.f166, by kernel_rfl, rfl, by kernel_rfl⟩
theorem cal.f168 : Cal Try.prog 168 := ⟨Try.f168, by kernel_rfl, rfl, by kernel_rfl⟩
theorem cal.f172 : Cal Try.prog 172 := ⟨Try.f172, by kernel_rfl, rfl, by kernel_rfl⟩
theorem cal.f194 : Cal Try.prog 194 := ⟨Try.f194, by kernel_rfl, rfl, by kernel_rfl⟩
end Go.Proofs
