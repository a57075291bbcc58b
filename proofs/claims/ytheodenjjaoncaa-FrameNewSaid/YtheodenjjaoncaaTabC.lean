/- Contracts of functions that the laws reach, on abstract values, and what they need: no conditions but those that each theorem states. -/
import Derived.Test.YtheodenjjaoncaaTabA
import Derived.Test.YtheodenjjaoncaaSlO
set_option linter.unusedVariables false
set_option linter.unusedSimpArgs false
set_option linter.defProp false
namespace Go.Proofs
open Go Go.SL
theorem cal.f36 : Cal Try.prog 36 := ⟨Try.f36, by kernel_rfl, rfl, by kernel_rfl⟩
theorem cal.f42 : Cal Try.prog 42 := ⟨Try.f42, by kernel_rfl, rfl, by kernel_rfl⟩
theorem cal.f44 : Cal Try.prog 44 := ⟨Try.f44, by kernel_rfl, rfl, by kernel_rfl⟩
theorem cal.f47 : Cal Try.prog 47 := ⟨Try.f47, by kernel_rfl, rfl, by kernel_rfl⟩
theorem cal.f66 : Cal Try.prog 66 := ⟨Try.f66, by kernel_rfl, rfl, by kernel_rfl⟩
theorem cal.f69 : Cal Try.prog 69 := ⟨Try.f69, by kernel_rfl, rfl, by kernel_rfl⟩
theorem cal.f104 : Cal Try.prog 104 := ⟨Try.f104, by kernel_rfl, rfl, by kernel_rfl⟩
theorem cal.f107 : Cal Try.prog 107 := ⟨Try.f107, by kernel_rfl, rfl, by kernel_rfl⟩
theorem cal.f114 : Cal Try.prog 114 := ⟨Try.f114, by kernel_rfl, rfl, by kernel_rfl⟩
theorem cal.f116 : Cal Try.prog 116 := ⟨Try.f116, by kernel_rfl, rfl, by kernel_rfl⟩
theorem cal.f117 : Cal Try.prog 117 := ⟨Try.f117, by kernel_rfl, rfl, by kernel_rfl⟩
theorem cal.f119 : Cal Try.prog 119 := ⟨Try.f119, by kernel_rfl, rfl, by kernel_rfl⟩
theorem cal.f121 : Cal Try.prog 121 := ⟨Try.f121, by kernel_rfl, rfl, by kernel_rfl⟩
theorem cal.f123 : Cal Try.prog 123 := ⟨Try.f123, by kernel_rfl, rfl, by kernel_rfl⟩
theorem cal.f124 : Cal Try.prog 124 := ⟨Try.f124, by kernel_rfl, rfl, by kernel_rfl⟩
theorem cal.f139 : Cal Try.prog 139 := ⟨Try.f139, by kernel_rfl, rfl, by kernel_rfl⟩
theorem cal.f143 : Cal Try.prog 143 := ⟨Try.f143, by kernel_rfl, rfl, by kernel_rfl⟩
theorem cal.f144 : Cal Try.prog 144 := ⟨Try.f144, by kernel_rfl, rfl, by kernel_rfl⟩
theorem cal.f145 : Cal Try.prog 145 := ⟨Try.f145, by kernel_rfl, rfl, by kernel_rfl⟩
theorem cal.f146 : Cal Try.prog 146 := ⟨Try.f146, by kernel_rfl, rfl, by kernel_rfl⟩
theorem cal.f147 : Cal Try.prog 147 := ⟨Try.f147, by kernel_rfl, rfl, by kernel_rfl⟩
theorem cal.f148 : Cal Try.prog 148 := ⟨Try.f148, by kernel_rfl, rfl, by kernel_rfl⟩
theorem cal.f149 : Cal Try.prog 149 := ⟨Try.f149, by kernel_rfl, rfl, by kernel_rfl⟩
theorem cal.f152 : Cal Try.prog 152 := ⟨Try.f152, by kernel_rfl, rfl, by kernel_rfl⟩
theorem cal.f153 : Cal Try.prog 153 := ⟨Try.f153, by kernel_rfl, rfl, by kernel_rfl⟩
theorem cal.f154 : Cal Try.prog 154 := ⟨Try.f154, by kernel_rfl, rfl, by kernel_rfl⟩
theorem cal.f155 : Cal Try.prog 155 := ⟨Try.f155, by kernel_rfl, rfl, by kernel_rfl⟩
theorem cal.f156 : Cal Try.prog 156 := ⟨Try.f156, by kernel_rfl, rfl, by kernel_rfl⟩
theorem cal.f157 : Cal Try.prog 157 := ⟨Try.f157, by kernel_rfl, rfl, by kernel_rfl⟩
theorem cal.f158 : Cal Try.prog 158 := ⟨Try.f158, by kernel_rfl, rfl, by kernel_rfl⟩
theorem cal.f159 : Cal Try.prog 159 := ⟨Try.f159, by kernel_rfl, rfl, by kernel_rfl⟩
theorem cal.f160 : Cal Try.prog 160 := ⟨Try.f160, by kernel_rfl, rfl, by kernel_rfl⟩
theorem cal.f161 : Cal Try.prog 161 := ⟨Try.f161, by kernel_rfl, rfl, by kernel_rfl⟩
theorem cal.f162 : Cal Try.prog 162 := ⟨Try.f162, by kernel_rfl, rfl, by kernel_rfl⟩
theorem cal.f167 : Cal Try.prog 167 := ⟨Try.f167, by kernel_rfl, rfl, by kernel_rfl⟩
theorem cal.f168 : Cal Try.prog 168 := ⟨Try.f168, by kernel_rfl, rfl, by kernel_rfl⟩
theorem cal.f169 : Cal Try.prog 169 := ⟨Try.f169, by kernel_rfl, rfl, by kernel_rfl⟩
theorem cal.f190 : Cal Try.prog 190 := ⟨Try.f190, by kernel_rfl, rfl, by kernel_rfl⟩
theorem cal.f191 : Cal Try.prog 191 := ⟨Try.f191, by kernel_rfl, rfl, by kernel_rfl⟩
theorem cal.f192 : Cal Try.prog 192 := ⟨Try.f192, by kernel_rfl, rfl, by kernel_rfl⟩
theorem cal.f193 : Cal Try.prog 193 := ⟨Try.f193, by kernel_rfl, rfl, by kernel_rfl⟩
theorem cal.f194 : Cal Try.prog 194 := ⟨Try.f194, by kernel_rfl, rfl, by kernel_rfl⟩
theorem cal.f195 : Cal Try.prog 195 := ⟨Try.f195, by kernel_rfl, rfl, by kernel_rfl⟩
theorem cal.f196 : Cal Try.prog 196 := ⟨Try.f196, by kernel_rfl, rfl, by kernel_rfl⟩
theorem cal.f197 : Cal Try.prog 197 := ⟨Try.f197, by kernel_rfl, rfl, by kernel_rfl⟩
theorem cal.f198 : Cal Try.prog 198 := ⟨Try.f198, by kernel_rfl, rfl, by kernel_rfl⟩
theorem cal.f199 : Cal Try.prog 199 := ⟨Try.f199, by kernel_rfl, rfl, by kernel_rfl⟩
theorem cal.f200 : Cal Try.prog 200 := ⟨Try.f200, by kernel_rfl, rfl, by kernel_rfl⟩
theorem cal.f201 : Cal Try.prog 201 := ⟨Try.f201, by kernel_rfl, rfl, by kernel_rfl⟩
end Go.Proofs
