/- How the data types lie in memory, and the table of types, borne out by the program. No conditions. -/
import Derived.ChangeBookTie2
import Derived.Test.YtldimfobgpmlaaaGreatDoorProg
import Derived.Test.YtldimfobgpmlaaaGreatDoorTIDa
set_option autoImplicit true
set_option linter.unusedVariables false
set_option maxRecDepth 100000
namespace Go.Lg
open Go Go.Proofs
inductive Tr where
  | lf
  | nd (l : Tr) (k : Nat) (d : TD) (r : Tr)
def Tr.get : Tr → Nat → Option TD
  | .lf, _ => none
  | .nd l k d r, t => match Nat.blt t k with
    | true => l.get t
    | false => match Nat.beq t k with
      | true => some d
      | false => r.get t
def Tr.chk (P : Program) : Tr → Bool
  | .lf => true
  | .nd l k d r => l.chk P && okTD P k d && r.chk P
theorem Tr.sound {P : Program} : ∀ {x : Tr}, x.chk P = true → ∀ t d, x.get t = some d → okTD P t d = true
  | .lf, _, t, d, h => by cases h
  | .nd l k e r, hc, t, d, h => by
    simp only [Tr.chk, Bool.and_eq_true] at hc
    simp only [Tr.get] at h
    split at h
    · exact Tr.sound hc.1.1 t d h
    · split at h
      · rename_i hb
        injection h with h
        subst h
        rw [Nat.eq_of_beq_eq_true hb]
        exact hc.1.2
      · exact Tr.sound hc.2 t d h
def trP0 : Tr := (.nd (.nd (.nd (.nd (.nd .lf 0 ⟨0, 1, [], 0, 0, .i64, []⟩ .lf) 1 ⟨0, 1, [], 0, 0, .i64, []⟩ .lf) 2 ⟨3, 1, [], 0, 0, .i64, []⟩ (.nd .lf 3 ⟨3, 1, [], 0, 0, .i64, []⟩ .lf)) 4 ⟨4, 1, [], 0, 0, .i64, []⟩ (.nd (.nd .lf 5 ⟨3, 1, [], 0, 0, .u8, []⟩ .lf) 6 ⟨3, 1, [], 0, 0, .u8, []⟩ (.nd .lf 7 ⟨5, 4, [0, 1, 2, 3], 0, 0, .i64, [1, 1, 1, 1]⟩ .lf))) 8 ⟨5, 4, [0, 1, 2, 3], 0, 0, .i64, [1, 1, 1, 1]⟩ (.nd (.nd (.nd .lf 9 ⟨2, 1, [], 0, 0, .i64, []⟩ .lf) 10 ⟨2, 1, [], 0, 0, .i64, []⟩ (.nd .lf 11 ⟨2, 1, [], 0, 0, .i64, []⟩ .lf)) 12 ⟨3, 1, [], 0, 0, .u64, []⟩ (.nd (.nd .lf 13 ⟨5, 2, [0, 1], 0, 0, .i64, [1, 1]⟩ .lf) 14 ⟨5, 2, [0, 1], 0, 0, .i64, [1, 1]⟩ (.nd .lf 15 ⟨8, 1, [], 0, 0, .i64, []⟩ .lf))))
theorem trP0_chk : trP0.chk Tryz.prog = true := by kernel_rfl
def trP1 : Tr := (.nd (.nd (.nd (.nd (.nd .lf 16 ⟨8, 1, [], 0, 0, .i64, []⟩ .lf) 17 ⟨8, 1, [], 0, 0, .i64, []⟩ .lf) 18 ⟨5, 1, [0], 0, 0, .i64, [1]⟩ (.nd .lf 19 ⟨5, 1, [0], 0, 0, .i64, [1]⟩ .lf)) 21 ⟨3, 1, [], 0, 0, .i32, []⟩ (.nd (.nd .lf 22 ⟨1, 1, [], 1, 9, .i64, []⟩ .lf) 23 ⟨1, 1, [], 4, 266, .i64, []⟩ (.nd .lf 24 ⟨1, 1, [], 1, 3, .i64, []⟩ .lf))) 25 ⟨1, 1, [], 18, 93, .i64, []⟩ (.nd (.nd (.nd .lf 26 ⟨5, 10, [0, 1, 2, 3, 4, 5, 6, 7, 8, 9], 0, 0, .i64, [1, 1, 1, 1, 1, 1, 1, 1, 1, 1]⟩ .lf) 27 ⟨5, 10, [0, 1, 2, 3, 4, 5, 6, 7, 8, 9], 0, 0, .i64, [1, 1, 1, 1, 1, 1, 1, 1, 1, 1]⟩ (.nd .lf 28 ⟨1, 1, [], 2, 114, .i64, []⟩ .lf)) 29 ⟨5, 6, [0, 1, 2, 3, 4, 5], 0, 0, .i64, [1, 1, 1, 1, 1, 1]⟩ (.nd (.nd .lf 30 ⟨5, 6, [0, 1, 2, 3, 4, 5], 0, 0, .i64, [1, 1, 1, 1, 1, 1]⟩ .lf) 31 ⟨0, 1, [], 0, 0, .i64, []⟩ (.nd .lf 32 ⟨0, 1, [], 0, 0, .i64, []⟩ .lf))))
theorem trP1_chk : trP1.chk Tryz.prog = true := by kernel_rfl
def trP2 : Tr := (.nd (.nd (.nd (.nd (.nd .lf 33 ⟨1, 1, [], 2, 72, .i64, []⟩ .lf) 34 ⟨1, 1, [], 4, 74, .i64, []⟩ .lf) 35 ⟨5, 5, [0, 1, 2, 3, 4], 0, 0, .i64, [1, 1, 1, 1, 1]⟩ (.nd .lf 36 ⟨5, 5, [0, 1, 2, 3, 4], 0, 0, .i64, [1, 1, 1, 1, 1]⟩ .lf)) 37 ⟨3, 1, [], 0, 0, .i64, []⟩ (.nd (.nd .lf 38 ⟨0, 1, [], 0, 0, .i64, []⟩ .lf) 39 ⟨0, 1, [], 0, 0, .i64, []⟩ (.nd .lf 40 ⟨0, 1, [], 0, 0, .i64, []⟩ .lf))) 41 ⟨5, 2, [0, 1], 0, 0, .i64, [1, 1]⟩ (.nd (.nd (.nd .lf 42 ⟨5, 2, [0, 1], 0, 0, .i64, [1, 1]⟩ .lf) 43 ⟨0, 1, [], 0, 0, .i64, []⟩ (.nd .lf 44 ⟨0, 1, [], 0, 0, .i64, []⟩ .lf)) 45 ⟨0, 1, [], 0, 0, .i64, []⟩ (.nd (.nd .lf 46 ⟨5, 3, [0, 1, 2], 0, 0, .i64, [1, 1, 1]⟩ .lf) 47 ⟨5, 3, [0, 1, 2], 0, 0, .i64, [1, 1, 1]⟩ (.nd .lf 48 ⟨5, 6, [0, 1, 2, 3, 4, 5], 0, 0, .i64, [1, 1, 1, 1, 1, 1]⟩ .lf))))
theorem trP2_chk : trP2.chk Tryz.prog = true := by kernel_rfl
def trP3 : Tr := (.nd (.nd (.nd (.nd (.nd .lf 49 ⟨5, 6, [0, 1, 2, 3, 4, 5], 0, 0, .i64, [1, 1, 1, 1, 1, 1]⟩ .lf) 50 ⟨0, 1, [], 0, 0, .i64, []⟩ .lf) 51 ⟨0, 1, [], 0, 0, .i64, []⟩ (.nd .lf 52 ⟨5, 2, [0, 1], 0, 0, .i64, [1, 1]⟩ .lf)) 53 ⟨5, 2, [0, 1], 0, 0, .i64, [1, 1]⟩ (.nd (.nd .lf 54 ⟨0, 1, [], 0, 0, .i64, []⟩ .lf) 55 ⟨0, 1, [], 0, 0, .i64, []⟩ (.nd .lf 56 ⟨0, 1, [], 0, 0, .i64, []⟩ .lf))) 57 ⟨0, 1, [], 0, 0, .i64, []⟩ (.nd (.nd (.nd .lf 58 ⟨0, 1, [], 0, 0, .i64, []⟩ .lf) 59 ⟨0, 1, [], 0, 0, .i64, []⟩ (.nd .lf 60 ⟨0, 1, [], 0, 0, .i64, []⟩ .lf)) 61 ⟨0, 1, [], 0, 0, .i64, []⟩ (.nd (.nd .lf 62 ⟨0, 1, [], 0, 0, .i64, []⟩ .lf) 63 ⟨0, 1, [], 0, 0, .i64, []⟩ (.nd .lf 64 ⟨0, 1, [], 0, 0, .i64, []⟩ .lf))))
theorem trP3_chk : trP3.chk Tryz.prog = true := by kernel_rfl
def trP4 : Tr := (.nd (.nd (.nd (.nd (.nd .lf 65 ⟨0, 1, [], 0, 0, .i64, []⟩ .lf) 66 ⟨0, 1, [], 0, 0, .i64, []⟩ .lf) 67 ⟨8, 1, [], 0, 0, .i64, []⟩ (.nd .lf 68 ⟨0, 1, [], 0, 0, .i64, []⟩ .lf)) 69 ⟨0, 1, [], 0, 0, .i64, []⟩ (.nd (.nd .lf 70 ⟨0, 1, [], 0, 0, .i64, []⟩ .lf) 71 ⟨5, 2, [0, 1], 0, 0, .i64, [1, 1]⟩ (.nd .lf 72 ⟨5, 2, [0, 1], 0, 0, .i64, [1, 1]⟩ .lf))) 73 ⟨5, 4, [0, 1, 2, 3], 0, 0, .i64, [1, 1, 1, 1]⟩ (.nd (.nd (.nd .lf 74 ⟨5, 4, [0, 1, 2, 3], 0, 0, .i64, [1, 1, 1, 1]⟩ .lf) 75 ⟨0, 1, [], 0, 0, .i64, []⟩ (.nd .lf 76 ⟨0, 1, [], 0, 0, .i64, []⟩ .lf)) 77 ⟨0, 1, [], 0, 0, .i64, []⟩ (.nd (.nd .lf 78 ⟨1, 1, [], 1, 79, .i64, []⟩ .lf) 79 ⟨3, 1, [], 0, 0, .u64, []⟩ (.nd .lf 80 ⟨0, 1, [], 0, 0, .i64, []⟩ .lf))))
theorem trP4_chk : trP4.chk Tryz.prog = true := by kernel_rfl
def trP5 : Tr := (.nd (.nd (.nd (.nd (.nd .lf 81 ⟨0, 1, [], 0, 0, .i64, []⟩ .lf) 82 ⟨0, 1, [], 0, 0, .i64, []⟩ .lf) 83 ⟨0, 1, [], 0, 0, .i64, []⟩ (.nd .lf 84 ⟨0, 1, [], 0, 0, .i64, []⟩ .lf)) 85 ⟨0, 1, [], 0, 0, .i64, []⟩ (.nd (.nd .lf 86 ⟨0, 1, [], 0, 0, .i64, []⟩ .lf) 87 ⟨0, 1, [], 0, 0, .i64, []⟩ (.nd .lf 88 ⟨0, 1, [], 0, 0, .i64, []⟩ .lf))) 89 ⟨0, 1, [], 0, 0, .i64, []⟩ (.nd (.nd (.nd .lf 90 ⟨0, 1, [], 0, 0, .i64, []⟩ .lf) 91 ⟨1, 1, [], 6, 293, .i64, []⟩ (.nd .lf 92 ⟨5, 18, [0, 1, 2, 3, 4, 5, 6, 7, 8, 9, 10, 11, 12, 13, 14, 15, 16, 17], 0, 0, .i64, [1, 1, 1, 1, 1, 1, 1, 1, 1, 1, 1, 1, 1, 1, 1, 1, 1, 1]⟩ .lf)) 93 ⟨5, 18, [0, 1, 2, 3, 4, 5, 6, 7, 8, 9, 10, 11, 12, 13, 14, 15, 16, 17], 0, 0, .i64, [1, 1, 1, 1, 1, 1, 1, 1, 1, 1, 1, 1, 1, 1, 1, 1, 1, 1]⟩ (.nd (.nd .lf 94 ⟨0, 1, [], 0, 0, .i64, []⟩ .lf) 95 ⟨1, 1, [], 1, 136, .i64, []⟩ (.nd .lf 96 ⟨1, 1, [], 1, 4, .i64, []⟩ .lf))))
theorem trP5_chk : trP5.chk Tryz.prog = true := by kernel_rfl
def trP6 : Tr := (.nd (.nd (.nd (.nd (.nd .lf 97 ⟨5, 4, [0, 1, 2, 3], 0, 0, .i64, [1, 1, 1, 1]⟩ .lf) 98 ⟨5, 4, [0, 1, 2, 3], 0, 0, .i64, [1, 1, 1, 1]⟩ .lf) 99 ⟨0, 1, [], 0, 0, .i64, []⟩ (.nd .lf 100 ⟨0, 1, [], 0, 0, .i64, []⟩ .lf)) 101 ⟨0, 1, [], 0, 0, .i64, []⟩ (.nd (.nd .lf 102 ⟨0, 1, [], 0, 0, .i64, []⟩ .lf) 103 ⟨0, 1, [], 0, 0, .i64, []⟩ (.nd .lf 104 ⟨5, 1, [0], 0, 0, .i64, [1]⟩ .lf))) 105 ⟨5, 1, [0], 0, 0, .i64, [1]⟩ (.nd (.nd (.nd .lf 106 ⟨0, 1, [], 0, 0, .i64, []⟩ .lf) 107 ⟨0, 1, [], 0, 0, .i64, []⟩ (.nd .lf 108 ⟨0, 1, [], 0, 0, .i64, []⟩ .lf)) 109 ⟨0, 1, [], 0, 0, .i64, []⟩ (.nd (.nd .lf 110 ⟨0, 1, [], 0, 0, .i64, []⟩ .lf) 111 ⟨0, 1, [], 0, 0, .i64, []⟩ (.nd .lf 112 ⟨0, 1, [], 0, 0, .i64, []⟩ .lf))))
theorem trP6_chk : trP6.chk Tryz.prog = true := by kernel_rfl
def trP7 : Tr := (.nd (.nd (.nd (.nd (.nd .lf 113 ⟨5, 2, [0, 1], 0, 0, .i64, [1, 1]⟩ .lf) 114 ⟨5, 2, [0, 1], 0, 0, .i64, [1, 1]⟩ .lf) 115 ⟨0, 1, [], 0, 0, .i64, []⟩ (.nd .lf 116 ⟨0, 1, [], 0, 0, .i64, []⟩ .lf)) 117 ⟨5, 5, [0, 1, 2, 3, 4], 0, 0, .i64, [1, 1, 1, 1, 1]⟩ (.nd (.nd .lf 118 ⟨5, 5, [0, 1, 2, 3, 4], 0, 0, .i64, [1, 1, 1, 1, 1]⟩ .lf) 119 ⟨0, 1, [], 0, 0, .i64, []⟩ (.nd .lf 120 ⟨0, 1, [], 0, 0, .i64, []⟩ .lf))) 121 ⟨0, 1, [], 0, 0, .i64, []⟩ (.nd (.nd (.nd .lf 122 ⟨0, 1, [], 0, 0, .i64, []⟩ .lf) 123 ⟨5, 2, [0, 1], 0, 0, .i64, [1, 1]⟩ (.nd .lf 124 ⟨5, 2, [0, 1], 0, 0, .i64, [1, 1]⟩ .lf)) 125 ⟨0, 1, [], 0, 0, .i64, []⟩ (.nd (.nd .lf 126 ⟨0, 1, [], 0, 0, .i64, []⟩ .lf) 127 ⟨0, 1, [], 0, 0, .i64, []⟩ (.nd .lf 128 ⟨0, 1, [], 0, 0, .i64, []⟩ .lf))))
theorem trP7_chk : trP7.chk Tryz.prog = true := by kernel_rfl
def trP8 : Tr := (.nd (.nd (.nd (.nd (.nd .lf 129 ⟨7, 1, [], 0, 0, .i64, []⟩ .lf) 130 ⟨1, 1, [], 2, 124, .i64, []⟩ .lf) 131 ⟨5, 7, [0, 1, 2, 3, 4, 5, 6], 0, 0, .i64, [1, 1, 1, 1, 1, 1, 1]⟩ (.nd .lf 132 ⟨5, 7, [0, 1, 2, 3, 4, 5, 6], 0, 0, .i64, [1, 1, 1, 1, 1, 1, 1]⟩ .lf)) 133 ⟨0, 1, [], 0, 0, .i64, []⟩ (.nd (.nd .lf 134 ⟨5, 4, [0, 1, 2, 3], 0, 0, .i64, [1, 1, 1, 1]⟩ .lf) 135 ⟨5, 4, [0, 1, 2, 3], 0, 0, .i64, [1, 1, 1, 1]⟩ (.nd .lf 136 ⟨1, 1, [], 1, 24, .i64, []⟩ .lf))) 137 ⟨0, 1, [], 0, 0, .i64, []⟩ (.nd (.nd (.nd .lf 138 ⟨0, 1, [], 0, 0, .i64, []⟩ .lf) 139 ⟨8, 1, [], 0, 0, .i64, []⟩ (.nd .lf 140 ⟨6, 3, [], 1, 3, .i64, []⟩ .lf)) 141 ⟨5, 5, [0, 3, 4], 0, 0, .i64, [3, 1, 1]⟩ (.nd (.nd .lf 142 ⟨5, 5, [0, 3, 4], 0, 0, .i64, [3, 1, 1]⟩ .lf) 143 ⟨0, 1, [], 0, 0, .i64, []⟩ (.nd .lf 144 ⟨0, 1, [], 0, 0, .i64, []⟩ .lf))))
theorem trP8_chk : trP8.chk Tryz.prog = true := by kernel_rfl
def trP9 : Tr := (.nd (.nd (.nd (.nd (.nd .lf 145 ⟨0, 1, [], 0, 0, .i64, []⟩ .lf) 146 ⟨0, 1, [], 0, 0, .i64, []⟩ .lf) 147 ⟨7, 1, [], 0, 0, .i64, []⟩ (.nd .lf 148 ⟨1, 1, [], 5, 142, .i64, []⟩ .lf)) 149 ⟨5, 7, [0, 1, 2, 3, 4, 5, 6], 0, 0, .i64, [1, 1, 1, 1, 1, 1, 1]⟩ (.nd (.nd .lf 150 ⟨5, 7, [0, 1, 2, 3, 4, 5, 6], 0, 0, .i64, [1, 1, 1, 1, 1, 1, 1]⟩ .lf) 151 ⟨0, 1, [], 0, 0, .i64, []⟩ (.nd .lf 152 ⟨0, 1, [], 0, 0, .i64, []⟩ .lf))) 153 ⟨0, 1, [], 0, 0, .i64, []⟩ (.nd (.nd (.nd .lf 154 ⟨0, 1, [], 0, 0, .i64, []⟩ .lf) 155 ⟨0, 1, [], 0, 0, .i64, []⟩ (.nd .lf 156 ⟨0, 1, [], 0, 0, .i64, []⟩ .lf)) 157 ⟨0, 1, [], 0, 0, .i64, []⟩ (.nd (.nd .lf 158 ⟨0, 1, [], 0, 0, .i64, []⟩ .lf) 159 ⟨0, 1, [], 0, 0, .i64, []⟩ (.nd .lf 160 ⟨0, 1, [], 0, 0, .i64, []⟩ .lf))))
theorem trP9_chk : trP9.chk Tryz.prog = true := by kernel_rfl
def trP10 : Tr := (.nd (.nd (.nd (.nd (.nd .lf 161 ⟨0, 1, [], 0, 0, .i64, []⟩ .lf) 162 ⟨0, 1, [], 0, 0, .i64, []⟩ .lf) 163 ⟨0, 1, [], 0, 0, .i64, []⟩ (.nd .lf 164 ⟨1, 1, [], 6, 169, .i64, []⟩ .lf)) 165 ⟨5, 1, [0], 0, 0, .i64, [1]⟩ (.nd (.nd .lf 166 ⟨5, 1, [0], 0, 0, .i64, [1]⟩ .lf) 167 ⟨0, 1, [], 0, 0, .i64, []⟩ (.nd .lf 168 ⟨5, 6, [0, 1, 2, 3, 4, 5], 0, 0, .i64, [1, 1, 1, 1, 1, 1]⟩ .lf))) 169 ⟨5, 6, [0, 1, 2, 3, 4, 5], 0, 0, .i64, [1, 1, 1, 1, 1, 1]⟩ (.nd (.nd (.nd .lf 170 ⟨0, 1, [], 0, 0, .i64, []⟩ .lf) 171 ⟨0, 1, [], 0, 0, .i64, []⟩ (.nd .lf 172 ⟨3, 1, [], 0, 0, .u64, []⟩ .lf)) 173 ⟨5, 2, [0, 1], 0, 0, .i64, [1, 1]⟩ (.nd (.nd .lf 174 ⟨5, 2, [0, 1], 0, 0, .i64, [1, 1]⟩ .lf) 175 ⟨0, 1, [], 0, 0, .i64, []⟩ (.nd .lf 176 ⟨0, 1, [], 0, 0, .i64, []⟩ .lf))))
theorem trP10_chk : trP10.chk Tryz.prog = true := by kernel_rfl
def trP11 : Tr := (.nd (.nd (.nd (.nd (.nd .lf 177 ⟨0, 1, [], 0, 0, .i64, []⟩ .lf) 178 ⟨5, 2, [0, 1], 0, 0, .i64, [1, 1]⟩ .lf) 179 ⟨5, 2, [0, 1], 0, 0, .i64, [1, 1]⟩ (.nd .lf 180 ⟨0, 1, [], 0, 0, .i64, []⟩ .lf)) 181 ⟨0, 1, [], 0, 0, .i64, []⟩ (.nd (.nd .lf 182 ⟨0, 1, [], 0, 0, .i64, []⟩ .lf) 183 ⟨7, 1, [], 0, 0, .i64, []⟩ (.nd .lf 184 ⟨1, 1, [], 2, 179, .i64, []⟩ .lf))) 185 ⟨5, 7, [0, 1, 2, 3, 4, 5, 6], 0, 0, .i64, [1, 1, 1, 1, 1, 1, 1]⟩ (.nd (.nd (.nd .lf 186 ⟨5, 7, [0, 1, 2, 3, 4, 5, 6], 0, 0, .i64, [1, 1, 1, 1, 1, 1, 1]⟩ .lf) 187 ⟨0, 1, [], 0, 0, .i64, []⟩ (.nd .lf 188 ⟨0, 1, [], 0, 0, .i64, []⟩ .lf)) 189 ⟨5, 19, [0, 18], 0, 0, .i64, [18, 1]⟩ (.nd (.nd .lf 190 ⟨5, 19, [0, 18], 0, 0, .i64, [18, 1]⟩ .lf) 191 ⟨7, 1, [], 0, 0, .i64, []⟩ (.nd .lf 192 ⟨1, 1, [], 4, 197, .i64, []⟩ .lf))))
theorem trP11_chk : trP11.chk Tryz.prog = true := by kernel_rfl
def trP12 : Tr := (.nd (.nd (.nd (.nd (.nd .lf 193 ⟨1, 1, [], 2, 195, .i64, []⟩ .lf) 194 ⟨5, 2, [0, 1], 0, 0, .i64, [1, 1]⟩ .lf) 195 ⟨5, 2, [0, 1], 0, 0, .i64, [1, 1]⟩ (.nd .lf 196 ⟨5, 4, [0, 1, 2], 0, 0, .i64, [1, 1, 2]⟩ .lf)) 197 ⟨5, 4, [0, 1, 2], 0, 0, .i64, [1, 1, 2]⟩ (.nd (.nd .lf 198 ⟨0, 1, [], 0, 0, .i64, []⟩ .lf) 199 ⟨0, 1, [], 0, 0, .i64, []⟩ (.nd .lf 200 ⟨8, 1, [], 0, 0, .i64, []⟩ .lf))) 201 ⟨0, 1, [], 0, 0, .i64, []⟩ (.nd (.nd (.nd .lf 202 ⟨0, 1, [], 0, 0, .i64, []⟩ .lf) 203 ⟨0, 1, [], 0, 0, .i64, []⟩ (.nd .lf 204 ⟨0, 1, [], 0, 0, .i64, []⟩ .lf)) 205 ⟨0, 1, [], 0, 0, .i64, []⟩ (.nd (.nd .lf 206 ⟨0, 1, [], 0, 0, .i64, []⟩ .lf) 207 ⟨0, 1, [], 0, 0, .i64, []⟩ (.nd .lf 208 ⟨0, 1, [], 0, 0, .i64, []⟩ .lf))))
theorem trP12_chk : trP12.chk Tryz.prog = true := by kernel_rfl
def trP13 : Tr := (.nd (.nd (.nd (.nd (.nd .lf 209 ⟨0, 1, [], 0, 0, .i64, []⟩ .lf) 210 ⟨0, 1, [], 0, 0, .i64, []⟩ .lf) 211 ⟨8, 1, [], 0, 0, .i64, []⟩ (.nd .lf 212 ⟨0, 1, [], 0, 0, .i64, []⟩ .lf)) 213 ⟨0, 1, [], 0, 0, .i64, []⟩ (.nd (.nd .lf 214 ⟨7, 1, [], 0, 0, .i64, []⟩ .lf) 215 ⟨0, 1, [], 0, 0, .i64, []⟩ (.nd .lf 216 ⟨5, 7, [0, 1, 2, 3, 4, 5, 6], 0, 0, .i64, [1, 1, 1, 1, 1, 1, 1]⟩ .lf))) 217 ⟨5, 7, [0, 1, 2, 3, 4, 5, 6], 0, 0, .i64, [1, 1, 1, 1, 1, 1, 1]⟩ (.nd (.nd (.nd .lf 218 ⟨8, 1, [], 0, 0, .i64, []⟩ .lf) 219 ⟨0, 1, [], 0, 0, .i64, []⟩ (.nd .lf 220 ⟨0, 1, [], 0, 0, .i64, []⟩ .lf)) 221 ⟨0, 1, [], 0, 0, .i64, []⟩ (.nd (.nd .lf 222 ⟨0, 1, [], 0, 0, .i64, []⟩ .lf) 223 ⟨0, 1, [], 0, 0, .i64, []⟩ (.nd .lf 224 ⟨5, 2, [0, 1], 0, 0, .i64, [1, 1]⟩ .lf))))
theorem trP13_chk : trP13.chk Tryz.prog = true := by kernel_rfl
def trP14 : Tr := (.nd (.nd (.nd (.nd (.nd .lf 225 ⟨5, 2, [0, 1], 0, 0, .i64, [1, 1]⟩ .lf) 226 ⟨0, 1, [], 0, 0, .i64, []⟩ .lf) 227 ⟨0, 1, [], 0, 0, .i64, []⟩ (.nd .lf 228 ⟨0, 1, [], 0, 0, .i64, []⟩ .lf)) 229 ⟨0, 1, [], 0, 0, .i64, []⟩ (.nd (.nd .lf 230 ⟨0, 1, [], 0, 0, .i64, []⟩ .lf) 231 ⟨0, 1, [], 0, 0, .i64, []⟩ (.nd .lf 232 ⟨0, 1, [], 0, 0, .i64, []⟩ .lf))) 233 ⟨7, 1, [], 0, 0, .i64, []⟩ (.nd (.nd (.nd .lf 234 ⟨1, 1, [], 2, 225, .i64, []⟩ .lf) 235 ⟨5, 7, [0, 1, 2, 3, 4, 5, 6], 0, 0, .i64, [1, 1, 1, 1, 1, 1, 1]⟩ (.nd .lf 236 ⟨5, 7, [0, 1, 2, 3, 4, 5, 6], 0, 0, .i64, [1, 1, 1, 1, 1, 1, 1]⟩ .lf)) 237 ⟨0, 1, [], 0, 0, .i64, []⟩ (.nd (.nd .lf 238 ⟨1, 1, [], 1, 96, .i64, []⟩ .lf) 239 ⟨5, 1, [0], 0, 0, .i64, [1]⟩ (.nd .lf 240 ⟨5, 1, [0], 0, 0, .i64, [1]⟩ .lf))))
theorem trP14_chk : trP14.chk Tryz.prog = true := by kernel_rfl
def trP15 : Tr := (.nd (.nd (.nd (.nd (.nd .lf 241 ⟨0, 1, [], 0, 0, .i64, []⟩ .lf) 242 ⟨0, 1, [], 0, 0, .i64, []⟩ .lf) 243 ⟨0, 1, [], 0, 0, .i64, []⟩ (.nd .lf 244 ⟨0, 1, [], 0, 0, .i64, []⟩ .lf)) 245 ⟨0, 1, [], 0, 0, .i64, []⟩ (.nd (.nd .lf 246 ⟨0, 1, [], 0, 0, .i64, []⟩ .lf) 247 ⟨8, 1, [], 0, 0, .i64, []⟩ (.nd .lf 248 ⟨0, 1, [], 0, 0, .i64, []⟩ .lf))) 249 ⟨0, 1, [], 0, 0, .i64, []⟩ (.nd (.nd (.nd .lf 250 ⟨0, 1, [], 0, 0, .i64, []⟩ .lf) 251 ⟨0, 1, [], 0, 0, .i64, []⟩ (.nd .lf 252 ⟨8, 1, [], 0, 0, .i64, []⟩ .lf)) 253 ⟨1, 1, [], 5, 36, .i64, []⟩ (.nd (.nd .lf 254 ⟨8, 1, [], 0, 0, .i64, []⟩ .lf) 255 ⟨0, 1, [], 0, 0, .i64, []⟩ (.nd .lf 256 ⟨0, 1, [], 0, 0, .i64, []⟩ .lf))))
theorem trP15_chk : trP15.chk Tryz.prog = true := by kernel_rfl
def trP16 : Tr := (.nd (.nd (.nd (.nd (.nd .lf 257 ⟨0, 1, [], 0, 0, .i64, []⟩ .lf) 258 ⟨1, 1, [], 1, 34, .i64, []⟩ .lf) 259 ⟨0, 1, [], 0, 0, .i64, []⟩ (.nd .lf 260 ⟨0, 1, [], 0, 0, .i64, []⟩ .lf)) 261 ⟨0, 1, [], 0, 0, .i64, []⟩ (.nd (.nd .lf 262 ⟨7, 1, [], 0, 0, .i64, []⟩ .lf) 263 ⟨5, 7, [0, 1, 2, 3, 4, 5, 6], 0, 0, .i64, [1, 1, 1, 1, 1, 1, 1]⟩ (.nd .lf 264 ⟨5, 7, [0, 1, 2, 3, 4, 5, 6], 0, 0, .i64, [1, 1, 1, 1, 1, 1, 1]⟩ .lf))) 265 ⟨5, 4, [0, 1, 2, 3], 0, 0, .i64, [1, 1, 1, 1]⟩ (.nd (.nd (.nd .lf 266 ⟨5, 4, [0, 1, 2, 3], 0, 0, .i64, [1, 1, 1, 1]⟩ .lf) 267 ⟨0, 1, [], 0, 0, .i64, []⟩ (.nd .lf 268 ⟨0, 1, [], 0, 0, .i64, []⟩ .lf)) 269 ⟨0, 1, [], 0, 0, .i64, []⟩ (.nd (.nd .lf 270 ⟨1, 1, [], 1, 37, .i64, []⟩ .lf) 271 ⟨0, 1, [], 0, 0, .i64, []⟩ (.nd .lf 272 ⟨0, 1, [], 0, 0, .i64, []⟩ .lf))))
theorem trP16_chk : trP16.chk Tryz.prog = true := by kernel_rfl
def trP17 : Tr := (.nd (.nd (.nd (.nd (.nd .lf 273 ⟨0, 1, [], 0, 0, .i64, []⟩ .lf) 274 ⟨8, 1, [], 0, 0, .i64, []⟩ .lf) 275 ⟨0, 1, [], 0, 0, .i64, []⟩ (.nd .lf 276 ⟨0, 1, [], 0, 0, .i64, []⟩ .lf)) 277 ⟨0, 1, [], 0, 0, .i64, []⟩ (.nd (.nd .lf 278 ⟨0, 1, [], 0, 0, .i64, []⟩ .lf) 279 ⟨0, 1, [], 0, 0, .i64, []⟩ (.nd .lf 280 ⟨8, 1, [], 0, 0, .i64, []⟩ .lf))) 281 ⟨0, 1, [], 0, 0, .i64, []⟩ (.nd (.nd (.nd .lf 282 ⟨8, 1, [], 0, 0, .i64, []⟩ .lf) 283 ⟨8, 1, [], 0, 0, .i64, []⟩ (.nd .lf 284 ⟨0, 1, [], 0, 0, .i64, []⟩ .lf)) 285 ⟨8, 1, [], 0, 0, .i64, []⟩ (.nd (.nd .lf 286 ⟨0, 1, [], 0, 0, .i64, []⟩ .lf) 287 ⟨0, 1, [], 0, 0, .i64, []⟩ (.nd .lf 288 ⟨0, 1, [], 0, 0, .i64, []⟩ .lf))))
theorem trP17_chk : trP17.chk Tryz.prog = true := by kernel_rfl
def trP18 : Tr := (.nd (.nd (.nd (.nd (.nd .lf 289 ⟨0, 1, [], 0, 0, .i64, []⟩ .lf) 290 ⟨0, 1, [], 0, 0, .i64, []⟩ .lf) 291 ⟨0, 1, [], 0, 0, .i64, []⟩ (.nd .lf 292 ⟨5, 6, [0, 1, 2], 0, 0, .i64, [1, 1, 4]⟩ .lf)) 293 ⟨5, 6, [0, 1, 2], 0, 0, .i64, [1, 1, 4]⟩ (.nd (.nd .lf 294 ⟨0, 1, [], 0, 0, .i64, []⟩ .lf) 295 ⟨0, 1, [], 0, 0, .i64, []⟩ (.nd .lf 296 ⟨7, 1, [], 0, 0, .i64, []⟩ .lf))) 297 ⟨1, 1, [], 1, 5, .i64, []⟩ (.nd (.nd (.nd .lf 298 ⟨0, 1, [], 0, 0, .i64, []⟩ .lf) 299 ⟨0, 1, [], 0, 0, .i64, []⟩ (.nd .lf 300 ⟨1, 1, [], 1, 22, .i64, []⟩ .lf)) 301 ⟨0, 1, [], 0, 0, .i64, []⟩ (.nd (.nd .lf 302 ⟨0, 1, [], 0, 0, .i64, []⟩ .lf) 303 ⟨0, 1, [], 0, 0, .i64, []⟩ (.nd .lf 304 ⟨6, 256, [], 1, 5, .i64, []⟩ .lf))))
theorem trP18_chk : trP18.chk Tryz.prog = true := by kernel_rfl
def trP19 : Tr := (.nd (.nd (.nd (.nd (.nd .lf 305 ⟨0, 1, [], 0, 0, .i64, []⟩ .lf) 306 ⟨0, 1, [], 0, 0, .i64, []⟩ .lf) 307 ⟨0, 1, [], 0, 0, .i64, []⟩ (.nd .lf 308 ⟨1, 1, [], 2, 310, .i64, []⟩ .lf)) 309 ⟨5, 2, [0, 1], 0, 0, .i64, [1, 1]⟩ (.nd (.nd .lf 310 ⟨5, 2, [0, 1], 0, 0, .i64, [1, 1]⟩ .lf) 311 ⟨3, 1, [], 0, 0, .u32, []⟩ (.nd .lf 312 ⟨0, 1, [], 0, 0, .i64, []⟩ .lf))) 313 ⟨8, 1, [], 0, 0, .i64, []⟩ (.nd (.nd (.nd .lf 314 ⟨1, 1, [], 3, 320, .i64, []⟩ .lf) 315 ⟨1, 1, [], 3, 323, .i64, []⟩ (.nd .lf 316 ⟨5, 3, [0, 1, 2], 0, 0, .i64, [1, 1, 1]⟩ .lf)) 317 ⟨5, 3, [0, 1, 2], 0, 0, .i64, [1, 1, 1]⟩ (.nd (.nd .lf 318 ⟨3, 1, [], 0, 0, .u16, []⟩ .lf) 319 ⟨5, 3, [0, 1, 2], 0, 0, .i64, [1, 1, 1]⟩ (.nd .lf 320 ⟨5, 3, [0, 1, 2], 0, 0, .i64, [1, 1, 1]⟩ .lf))))
theorem trP19_chk : trP19.chk Tryz.prog = true := by kernel_rfl
def trP20 : Tr := (.nd (.nd (.nd (.nd (.nd .lf 321 ⟨0, 1, [], 0, 0, .i64, []⟩ .lf) 322 ⟨5, 3, [0, 1, 2], 0, 0, .i64, [1, 1, 1]⟩ .lf) 323 ⟨5, 3, [0, 1, 2], 0, 0, .i64, [1, 1, 1]⟩ (.nd .lf 324 ⟨0, 1, [], 0, 0, .i64, []⟩ .lf)) 325 ⟨8, 1, [], 0, 0, .i64, []⟩ (.nd (.nd .lf 326 ⟨8, 1, [], 0, 0, .i64, []⟩ .lf) 327 ⟨0, 1, [], 0, 0, .i64, []⟩ (.nd .lf 328 ⟨5, 4, [0, 1, 2, 3], 0, 0, .i64, [1, 1, 1, 1]⟩ .lf))) 329 ⟨5, 4, [0, 1, 2, 3], 0, 0, .i64, [1, 1, 1, 1]⟩ (.nd (.nd (.nd .lf 330 ⟨6, 0, [], 1, 16, .i64, []⟩ .lf) 333 ⟨3, 1, [], 0, 0, .u8, []⟩ (.nd .lf 334 ⟨3, 1, [], 0, 0, .u8, []⟩ .lf)) 335 ⟨0, 1, [], 0, 0, .i64, []⟩ (.nd (.nd .lf 336 ⟨8, 1, [], 0, 0, .i64, []⟩ .lf) 337 ⟨3, 1, [], 0, 0, .i32, []⟩ (.nd .lf 338 ⟨3, 1, [], 0, 0, .i32, []⟩ .lf))))
theorem trP20_chk : trP20.chk Tryz.prog = true := by kernel_rfl
def trP21 : Tr := (.nd (.nd .lf 339 ⟨5, 11, [0, 1, 2, 3, 4, 5, 6, 7, 8, 9, 10], 0, 0, .i64, [1, 1, 1, 1, 1, 1, 1, 1, 1, 1, 1]⟩ .lf) 340 ⟨5, 11, [0, 1, 2, 3, 4, 5, 6, 7, 8, 9, 10], 0, 0, .i64, [1, 1, 1, 1, 1, 1, 1, 1, 1, 1, 1]⟩ .lf)
theorem trP21_chk : trP21.chk Tryz.prog = true := by kernel_rfl
def tbl (t : Nat) : Option TD := match Nat.blt t 177 with | true => (match Nat.blt t 81 with | true => (match Nat.blt t 33 with | true => (match Nat.blt t 16 with | true => (trP0.get t) | false => (trP1.get t)) | false => (match Nat.blt t 49 with | true => (trP2.get t) | false => (match Nat.blt t 65 with | true => (trP3.get t) | false => (trP4.get t)))) | false => (match Nat.blt t 129 with | true => (match Nat.blt t 97 with | true => (trP5.get t) | false => (match Nat.blt t 113 with | true => (trP6.get t) | false => (trP7.get t))) | false => (match Nat.blt t 145 with | true => (trP8.get t) | false => (match Nat.blt t 161 with | true => (trP9.get t) | false => (trP10.get t))))) | false => (match Nat.blt t 257 with | true => (match Nat.blt t 209 with | true => (match Nat.blt t 193 with | true => (trP11.get t) | false => (trP12.get t)) | false => (match Nat.blt t 225 with | true => (trP13.get t) | false => (match Nat.blt t 241 with | true => (trP14.get t) | false => (trP15.get t)))) | false => (match Nat.blt t 305 with | true => (match Nat.blt t 273 with | true => (trP16.get t) | false => (match Nat.blt t 289 with | true => (trP17.get t) | false => (trP18.get t))) | false => (match Nat.blt t 321 with | true => (trP19.get t) | false => (match Nat.blt t 339 with | true => (trP20.get t) | false => (trP21.get t)))))
instance : Tb Tryz.prog tbl where
  ok t d h := by
    unfold tbl at h
    repeat' split at h
    all_goals first | exact Tr.sound trP0_chk t d h | exact Tr.sound trP1_chk t d h | exact Tr.sound trP2_chk t d h | exact Tr.sound trP3_chk t d h | exact Tr.sound trP4_chk t d h | exact Tr.sound trP5_chk t d h | exact Tr.sound trP6_chk t d h | exact Tr.sound trP7_chk t d h | exact Tr.sound trP8_chk t d h | exact Tr.sound trP9_chk t d h | exact Tr.sound trP10_chk t d h | exact Tr.sound trP11_chk t d h | exact Tr.sound trP12_chk t d h | exact Tr.sound trP13_chk t d h | exact Tr.sound trP14_chk t d h | exact Tr.sound trP15_chk t d h | exact Tr.sound trP16_chk t d h | exact Tr.sound trP17_chk t d h | exact Tr.sound trP18_chk t d h | exact Tr.sound trP19_chk t d h | exact Tr.sound trP20_chk t d h | exact Tr.sound trP21_chk t d h
/-! ### Functions as data -/
instance {α0 β : Type} [Rep α0] [Rep β] : Rep (α0 → Option β) where
  sz := 1
  agg := false
  ok G cs f := ∃ id fst cap, cs = [.func (.func id) fst cap] ∧ okFn Tryz.prog id = true ∧ ∀ G', Le G G' → ∀ w S (v0 : Value) (x0 : α0) y, Inv w G' S → RepV G' v0 x0 → f x0 = some y → Calls Tryz.prog id (fst.toList ++ [v0] ++ cap.toList).toArray w (RV (Rt G' S y))
  len h := by obtain ⟨_, _, _, rfl, _⟩ := h; rfl
  mono hg h := let ⟨id, fst, cap, h1, h2, h3⟩ := h; ⟨id, fst, cap, h1, h2, fun G' hl => h3 G' (hg.trans hl)⟩
  flat h v hv := by obtain ⟨_, _, _, rfl, _⟩ := h; have e := List.mem_singleton.1 hv; subst e; rfl
  pos _ := rfl
theorem Fn1.mk {α0 β : Type} [Rep α0] [Rep β] {G : Store} {id : Nat} {fst cap : Array Value} {f : α0 → Option β} (hok : okFn Tryz.prog id = true) (h : ∀ G', Le G G' → ∀ w S (v0 : Value) (x0 : α0) y, Inv w G' S → RepV G' v0 x0 → f x0 = some y → Calls Tryz.prog id (fst.toList ++ [v0] ++ cap.toList).toArray w (RV (Rt G' S y))) : RepV G (.func (.func id) fst cap) f := ⟨_, ⟨id, fst, cap, rfl, hok, h⟩, rfl⟩
theorem Fn1.out {α0 β : Type} [Rep α0] [Rep β] {G : Store} {v : Value} {f : α0 → Option β} (h : RepV G v f) : ∃ id fst cap, v = .func (.func id) fst cap ∧ okFn Tryz.prog id = true ∧ ∀ G', Le G G' → ∀ w S (v0 : Value) (x0 : α0) y, Inv w G' S → RepV G' v0 x0 → f x0 = some y → Calls Tryz.prog id (fst.toList ++ [v0] ++ cap.toList).toArray w (RV (Rt G' S y)) := by
  obtain ⟨cs, ⟨id, fst, cap, rfl, h2, h3⟩, rfl⟩ := h
  exact ⟨id, fst, cap, rfl, h2, h3⟩
instance {α0 α1 β : Type} [Rep α0] [Rep α1] [Rep β] : Rep (α0 → α1 → Option β) where
  sz := 1
  agg := false
  ok G cs f := ∃ id fst cap, cs = [.func (.func id) fst cap] ∧ okFn Tryz.prog id = true ∧ ∀ G', Le G G' → ∀ w S (v0 v1 : Value) (x0 : α0) (x1 : α1) y, Inv w G' S → RepV G' v0 x0 → RepV G' v1 x1 → f x0 x1 = some y → Calls Tryz.prog id (fst.toList ++ [v0, v1] ++ cap.toList).toArray w (RV (Rt G' S y))
  len h := by obtain ⟨_, _, _, rfl, _⟩ := h; rfl
  mono hg h := let ⟨id, fst, cap, h1, h2, h3⟩ := h; ⟨id, fst, cap, h1, h2, fun G' hl => h3 G' (hg.trans hl)⟩
  flat h v hv := by obtain ⟨_, _, _, rfl, _⟩ := h; have e := List.mem_singleton.1 hv; subst e; rfl
  pos _ := rfl
theorem Fn2.mk {α0 α1 β : Type} [Rep α0] [Rep α1] [Rep β] {G : Store} {id : Nat} {fst cap : Array Value} {f : α0 → α1 → Option β} (hok : okFn Tryz.prog id = true) (h : ∀ G', Le G G' → ∀ w S (v0 v1 : Value) (x0 : α0) (x1 : α1) y, Inv w G' S → RepV G' v0 x0 → RepV G' v1 x1 → f x0 x1 = some y → Calls Tryz.prog id (fst.toList ++ [v0, v1] ++ cap.toList).toArray w (RV (Rt G' S y))) : RepV G (.func (.func id) fst cap) f := ⟨_, ⟨id, fst, cap, rfl, hok, h⟩, rfl⟩
theorem Fn2.out {α0 α1 β : Type} [Rep α0] [Rep α1] [Rep β] {G : Store} {v : Value} {f : α0 → α1 → Option β} (h : RepV G v f) : ∃ id fst cap, v = .func (.func id) fst cap ∧ okFn Tryz.prog id = true ∧ ∀ G', Le G G' → ∀ w S (v0 v1 : Value) (x0 : α0) (x1 : α1) y, Inv w G' S → RepV G' v0 x0 → RepV G' v1 x1 → f x0 x1 = some y → Calls Tryz.prog id (fst.toList ++ [v0, v1] ++ cap.toList).toArray w (RV (Rt G' S y)) := by
  obtain ⟨cs, ⟨id, fst, cap, rfl, h2, h3⟩, rfl⟩ := h
  exact ⟨id, fst, cap, rfl, h2, h3⟩
instance {α0 α1 α2 β : Type} [Rep α0] [Rep α1] [Rep α2] [Rep β] : Rep (α0 → α1 → α2 → Option β) where
  sz := 1
  agg := false
  ok G cs f := ∃ id fst cap, cs = [.func (.func id) fst cap] ∧ okFn Tryz.prog id = true ∧ ∀ G', Le G G' → ∀ w S (v0 v1 v2 : Value) (x0 : α0) (x1 : α1) (x2 : α2) y, Inv w G' S → RepV G' v0 x0 → RepV G' v1 x1 → RepV G' v2 x2 → f x0 x1 x2 = some y → Calls Tryz.prog id (fst.toList ++ [v0, v1, v2] ++ cap.toList).toArray w (RV (Rt G' S y))
  len h := by obtain ⟨_, _, _, rfl, _⟩ := h; rfl
  mono hg h := let ⟨id, fst, cap, h1, h2, h3⟩ := h; ⟨id, fst, cap, h1, h2, fun G' hl => h3 G' (hg.trans hl)⟩
  flat h v hv := by obtain ⟨_, _, _, rfl, _⟩ := h; have e := List.mem_singleton.1 hv; subst e; rfl
  pos _ := rfl
theorem Fn3.mk {α0 α1 α2 β : Type} [Rep α0] [Rep α1] [Rep α2] [Rep β] {G : Store} {id : Nat} {fst cap : Array Value} {f : α0 → α1 → α2 → Option β} (hok : okFn Tryz.prog id = true) (h : ∀ G', Le G G' → ∀ w S (v0 v1 v2 : Value) (x0 : α0) (x1 : α1) (x2 : α2) y, Inv w G' S → RepV G' v0 x0 → RepV G' v1 x1 → RepV G' v2 x2 → f x0 x1 x2 = some y → Calls Tryz.prog id (fst.toList ++ [v0, v1, v2] ++ cap.toList).toArray w (RV (Rt G' S y))) : RepV G (.func (.func id) fst cap) f := ⟨_, ⟨id, fst, cap, rfl, hok, h⟩, rfl⟩
theorem Fn3.out {α0 α1 α2 β : Type} [Rep α0] [Rep α1] [Rep α2] [Rep β] {G : Store} {v : Value} {f : α0 → α1 → α2 → Option β} (h : RepV G v f) : ∃ id fst cap, v = .func (.func id) fst cap ∧ okFn Tryz.prog id = true ∧ ∀ G', Le G G' → ∀ w S (v0 v1 v2 : Value) (x0 : α0) (x1 : α1) (x2 : α2) y, Inv w G' S → RepV G' v0 x0 → RepV G' v1 x1 → RepV G' v2 x2 → f x0 x1 x2 = some y → Calls Tryz.prog id (fst.toList ++ [v0, v1, v2] ++ cap.toList).toArray w (RV (Rt G' S y)) := by
  obtain ⟨cs, ⟨id, fst, cap, rfl, h2, h3⟩, rfl⟩ := h
  exact ⟨id, fst, cap, rfl, h2, h3⟩
instance : SRep Arr3_3 where
  flds d := [⟨Int, d.x0⟩, ⟨Int, d.x1⟩, ⟨Int, d.x2⟩]
  sz := 3
  hsz _ := by kernel_rfl
instance : SRep Linear where
  flds d := [⟨Int, d.c⟩, ⟨Int, d.n⟩, ⟨Int, d.t⟩, ⟨Int, d.f⟩]
  sz := 4
  hsz _ := by kernel_rfl
theorem Linear.unp {G : Store} {v : Value} {d : Linear} (h : RepV G v d) : v = .agg #[.int .i64 d.c, .int .i64 d.n, .int .i64 d.t, .int .i64 d.f] := by
  obtain ⟨cs, hok, rfl⟩ := h
  obtain ⟨_, _, rfl, rfl, hok⟩ := hok
  obtain ⟨_, _, rfl, rfl, hok⟩ := hok
  obtain ⟨_, _, rfl, rfl, hok⟩ := hok
  obtain ⟨_, _, rfl, rfl, hok⟩ := hok
  obtain rfl := hok
  rfl
theorem Linear.pk {G : Store} (d : Linear) : RepV G (.agg #[.int .i64 d.c, .int .i64 d.n, .int .i64 d.t, .int .i64 d.f]) d := by
  exact ⟨_, ⟨_, _, rfl, rfl, ⟨_, _, rfl, rfl, ⟨_, _, rfl, rfl, ⟨_, _, rfl, rfl, rfl⟩⟩⟩⟩, rfl⟩
instance : SRep Threshold where
  flds d := [⟨Int, d.message⟩, ⟨Int, d.coef⟩, ⟨Linear, d.bound⟩]
  sz := 6
  hsz _ := by kernel_rfl
theorem Threshold.unp {G : Store} {v : Value} {d : Threshold} (h : RepV G v d) : v = .agg #[.int .i64 d.message, .int .i64 d.coef, .int .i64 d.bound.c, .int .i64 d.bound.n, .int .i64 d.bound.t, .int .i64 d.bound.f] := by
  obtain ⟨cs, hok, rfl⟩ := h
  obtain ⟨_, _, rfl, rfl, hok⟩ := hok
  obtain ⟨_, _, rfl, rfl, hok⟩ := hok
  obtain ⟨bhok2, rhok2, rfl, qhok2, hok⟩ := hok
  obtain ⟨_, _, rfl, rfl, qhok2⟩ := qhok2
  obtain ⟨_, _, rfl, rfl, qhok2⟩ := qhok2
  obtain ⟨_, _, rfl, rfl, qhok2⟩ := qhok2
  obtain ⟨_, _, rfl, rfl, qhok2⟩ := qhok2
  obtain rfl := qhok2
  obtain rfl := hok
  rfl
theorem Threshold.pk {G : Store} (d : Threshold) : RepV G (.agg #[.int .i64 d.message, .int .i64 d.coef, .int .i64 d.bound.c, .int .i64 d.bound.n, .int .i64 d.bound.t, .int .i64 d.bound.f]) d := by
  exact ⟨_, ⟨_, _, rfl, rfl, ⟨_, _, rfl, rfl, ⟨_, _, rfl, ⟨_, _, rfl, rfl, ⟨_, _, rfl, rfl, ⟨_, _, rfl, rfl, ⟨_, _, rfl, rfl, rfl⟩⟩⟩⟩, rfl⟩⟩⟩, rfl⟩
instance : SRep Rule where
  flds d := [⟨ByteArray, d.name⟩, ⟨Int, d.kind⟩, ⟨Int, d.frm⟩, ⟨Int, d.to⟩, ⟨Int, d.partnerFrom⟩, ⟨Int, d.partnerTo⟩, ⟨List Int, d.response⟩, ⟨List Threshold, d.guards⟩, ⟨List Int, d.exists_⟩, ⟨List Int, d.forall_⟩, ⟨Int, d.read⟩, ⟨Int, d.write⟩, ⟨List Int, d.send⟩, ⟨Int, d.at_⟩, ⟨List Int, d.left⟩, ⟨List Int, d.right⟩, ⟨List Int, d.parent⟩, ⟨Int, d.direction⟩]
  sz := 18
  hsz _ := by kernel_rfl
theorem Rule.unp {G : Store} {v : Value} {d : Rule} (h : RepV G v d) : ∃ u6 u7 u8 u9 u12 u14 u15 u16, v = .agg #[.string d.name, .int .i64 d.kind, .int .i64 d.frm, .int .i64 d.to, .int .i64 d.partnerFrom, .int .i64 d.partnerTo, u6, u7, u8, u9, .int .i64 d.read, .int .i64 d.write, u12, .int .i64 d.at_, u14, u15, u16, .int .i64 d.direction] ∧ RepV G u6 d.response ∧ RepV G u7 d.guards ∧ RepV G u8 d.exists_ ∧ RepV G u9 d.forall_ ∧ RepV G u12 d.send ∧ RepV G u14 d.left ∧ RepV G u15 d.right ∧ RepV G u16 d.parent := by
  obtain ⟨cs, hok, rfl⟩ := h
  obtain ⟨_, _, rfl, rfl, hok⟩ := hok
  obtain ⟨_, _, rfl, rfl, hok⟩ := hok
  obtain ⟨_, _, rfl, rfl, hok⟩ := hok
  obtain ⟨_, _, rfl, rfl, hok⟩ := hok
  obtain ⟨_, _, rfl, rfl, hok⟩ := hok
  obtain ⟨_, _, rfl, rfl, hok⟩ := hok
  obtain ⟨_, _, rfl, ⟨u6, rfl, g6⟩, hok⟩ := hok
  obtain ⟨_, _, rfl, ⟨u7, rfl, g7⟩, hok⟩ := hok
  obtain ⟨_, _, rfl, ⟨u8, rfl, g8⟩, hok⟩ := hok
  obtain ⟨_, _, rfl, ⟨u9, rfl, g9⟩, hok⟩ := hok
  obtain ⟨_, _, rfl, rfl, hok⟩ := hok
  obtain ⟨_, _, rfl, rfl, hok⟩ := hok
  obtain ⟨_, _, rfl, ⟨u12, rfl, g12⟩, hok⟩ := hok
  obtain ⟨_, _, rfl, rfl, hok⟩ := hok
  obtain ⟨_, _, rfl, ⟨u14, rfl, g14⟩, hok⟩ := hok
  obtain ⟨_, _, rfl, ⟨u15, rfl, g15⟩, hok⟩ := hok
  obtain ⟨_, _, rfl, ⟨u16, rfl, g16⟩, hok⟩ := hok
  obtain ⟨_, _, rfl, rfl, hok⟩ := hok
  obtain rfl := hok
  exact ⟨u6, u7, u8, u9, u12, u14, u15, u16, rfl, g6.repV, g7.repV, g8.repV, g9.repV, g12.repV, g14.repV, g15.repV, g16.repV⟩
theorem Rule.pk {G : Store} (d : Rule) {u6 u7 u8 u9 u12 u14 u15 u16 : Value} (h6 : RepV G u6 d.response) (h7 : RepV G u7 d.guards) (h8 : RepV G u8 d.exists_) (h9 : RepV G u9 d.forall_) (h12 : RepV G u12 d.send) (h14 : RepV G u14 d.left) (h15 : RepV G u15 d.right) (h16 : RepV G u16 d.parent) : RepV G (.agg #[.string d.name, .int .i64 d.kind, .int .i64 d.frm, .int .i64 d.to, .int .i64 d.partnerFrom, .int .i64 d.partnerTo, u6, u7, u8, u9, .int .i64 d.read, .int .i64 d.write, u12, .int .i64 d.at_, u14, u15, u16, .int .i64 d.direction]) d := by
  obtain ⟨c6, g6, rfl⟩ := h6
  obtain ⟨c7, g7, rfl⟩ := h7
  obtain ⟨c8, g8, rfl⟩ := h8
  obtain ⟨c9, g9, rfl⟩ := h9
  obtain ⟨c12, g12, rfl⟩ := h12
  obtain ⟨c14, g14, rfl⟩ := h14
  obtain ⟨c15, g15, rfl⟩ := h15
  obtain ⟨c16, g16, rfl⟩ := h16
  obtain ⟨w6, rfl⟩ := one_cell (by rfl) g6
  obtain ⟨w7, rfl⟩ := one_cell (by rfl) g7
  obtain ⟨w8, rfl⟩ := one_cell (by rfl) g8
  obtain ⟨w9, rfl⟩ := one_cell (by rfl) g9
  obtain ⟨w12, rfl⟩ := one_cell (by rfl) g12
  obtain ⟨w14, rfl⟩ := one_cell (by rfl) g14
  obtain ⟨w15, rfl⟩ := one_cell (by rfl) g15
  obtain ⟨w16, rfl⟩ := one_cell (by rfl) g16
  exact ⟨_, ⟨_, _, rfl, rfl, ⟨_, _, rfl, rfl, ⟨_, _, rfl, rfl, ⟨_, _, rfl, rfl, ⟨_, _, rfl, rfl, ⟨_, _, rfl, rfl, ⟨_, _, rfl, g6, ⟨_, _, rfl, g7, ⟨_, _, rfl, g8, ⟨_, _, rfl, g9, ⟨_, _, rfl, rfl, ⟨_, _, rfl, rfl, ⟨_, _, rfl, g12, ⟨_, _, rfl, rfl, ⟨_, _, rfl, g14, ⟨_, _, rfl, g15, ⟨_, _, rfl, g16, ⟨_, _, rfl, rfl, rfl⟩⟩⟩⟩⟩⟩⟩⟩⟩⟩⟩⟩⟩⟩⟩⟩⟩⟩, rfl⟩
instance : SRep Protocol where
  flds d := [⟨ByteArray, d.name⟩, ⟨Int, d.topology⟩, ⟨List ByteArray, d.states⟩, ⟨List ByteArray, d.messages⟩, ⟨List ByteArray, d.values⟩, ⟨Int, d.fault⟩, ⟨List Linear, d.resilience⟩, ⟨List Int, d.initial⟩, ⟨List Int, d.leader⟩, ⟨List Rule, d.rules⟩]
  sz := 10
  hsz _ := by kernel_rfl
theorem Protocol.unp {G : Store} {v : Value} {d : Protocol} (h : RepV G v d) : ∃ u2 u3 u4 u6 u7 u8 u9, v = .agg #[.string d.name, .int .i64 d.topology, u2, u3, u4, .int .i64 d.fault, u6, u7, u8, u9] ∧ RepV G u2 d.states ∧ RepV G u3 d.messages ∧ RepV G u4 d.values ∧ RepV G u6 d.resilience ∧ RepV G u7 d.initial ∧ RepV G u8 d.leader ∧ RepV G u9 d.rules := by
  obtain ⟨cs, hok, rfl⟩ := h
  obtain ⟨_, _, rfl, rfl, hok⟩ := hok
  obtain ⟨_, _, rfl, rfl, hok⟩ := hok
  obtain ⟨_, _, rfl, ⟨u2, rfl, g2⟩, hok⟩ := hok
  obtain ⟨_, _, rfl, ⟨u3, rfl, g3⟩, hok⟩ := hok
  obtain ⟨_, _, rfl, ⟨u4, rfl, g4⟩, hok⟩ := hok
  obtain ⟨_, _, rfl, rfl, hok⟩ := hok
  obtain ⟨_, _, rfl, ⟨u6, rfl, g6⟩, hok⟩ := hok
  obtain ⟨_, _, rfl, ⟨u7, rfl, g7⟩, hok⟩ := hok
  obtain ⟨_, _, rfl, ⟨u8, rfl, g8⟩, hok⟩ := hok
  obtain ⟨_, _, rfl, ⟨u9, rfl, g9⟩, hok⟩ := hok
  obtain rfl := hok
  exact ⟨u2, u3, u4, u6, u7, u8, u9, rfl, g2.repV, g3.repV, g4.repV, g6.repV, g7.repV, g8.repV, g9.repV⟩
theorem Protocol.pk {G : Store} (d : Protocol) {u2 u3 u4 u6 u7 u8 u9 : Value} (h2 : RepV G u2 d.states) (h3 : RepV G u3 d.messages) (h4 : RepV G u4 d.values) (h6 : RepV G u6 d.resilience) (h7 : RepV G u7 d.initial) (h8 : RepV G u8 d.leader) (h9 : RepV G u9 d.rules) : RepV G (.agg #[.string d.name, .int .i64 d.topology, u2, u3, u4, .int .i64 d.fault, u6, u7, u8, u9]) d := by
  obtain ⟨c2, g2, rfl⟩ := h2
  obtain ⟨c3, g3, rfl⟩ := h3
  obtain ⟨c4, g4, rfl⟩ := h4
  obtain ⟨c6, g6, rfl⟩ := h6
  obtain ⟨c7, g7, rfl⟩ := h7
  obtain ⟨c8, g8, rfl⟩ := h8
  obtain ⟨c9, g9, rfl⟩ := h9
  obtain ⟨w2, rfl⟩ := one_cell (by rfl) g2
  obtain ⟨w3, rfl⟩ := one_cell (by rfl) g3
  obtain ⟨w4, rfl⟩ := one_cell (by rfl) g4
  obtain ⟨w6, rfl⟩ := one_cell (by rfl) g6
  obtain ⟨w7, rfl⟩ := one_cell (by rfl) g7
  obtain ⟨w8, rfl⟩ := one_cell (by rfl) g8
  obtain ⟨w9, rfl⟩ := one_cell (by rfl) g9
  exact ⟨_, ⟨_, _, rfl, rfl, ⟨_, _, rfl, rfl, ⟨_, _, rfl, g2, ⟨_, _, rfl, g3, ⟨_, _, rfl, g4, ⟨_, _, rfl, rfl, ⟨_, _, rfl, g6, ⟨_, _, rfl, g7, ⟨_, _, rfl, g8, ⟨_, _, rfl, g9, rfl⟩⟩⟩⟩⟩⟩⟩⟩⟩⟩, rfl⟩
instance : SRep Count where
  flds d := [⟨List Int, d.states⟩, ⟨Int, d.least⟩]
  sz := 2
  hsz _ := by kernel_rfl
theorem Count.unp {G : Store} {v : Value} {d : Count} (h : RepV G v d) : ∃ u0, v = .agg #[u0, .int .i64 d.least] ∧ RepV G u0 d.states := by
  obtain ⟨cs, hok, rfl⟩ := h
  obtain ⟨_, _, rfl, ⟨u0, rfl, g0⟩, hok⟩ := hok
  obtain ⟨_, _, rfl, rfl, hok⟩ := hok
  obtain rfl := hok
  exact ⟨u0, rfl, g0.repV⟩
theorem Count.pk {G : Store} (d : Count) {u0 : Value} (h0 : RepV G u0 d.states) : RepV G (.agg #[u0, .int .i64 d.least]) d := by
  obtain ⟨c0, g0, rfl⟩ := h0
  obtain ⟨w0, rfl⟩ := one_cell (by rfl) g0
  exact ⟨_, ⟨_, _, rfl, g0, ⟨_, _, rfl, rfl, rfl⟩⟩, rfl⟩
instance : SRep Property where
  flds d := [⟨ByteArray, d.name⟩, ⟨Int, d.kind⟩, ⟨List Int, d.start⟩, ⟨List Count, d.bad⟩, ⟨List Int, d.adjacent⟩, ⟨List Int, d.goal⟩]
  sz := 6
  hsz _ := by kernel_rfl
theorem Property.unp {G : Store} {v : Value} {d : Property} (h : RepV G v d) : ∃ u2 u3 u4 u5, v = .agg #[.string d.name, .int .i64 d.kind, u2, u3, u4, u5] ∧ RepV G u2 d.start ∧ RepV G u3 d.bad ∧ RepV G u4 d.adjacent ∧ RepV G u5 d.goal := by
  obtain ⟨cs, hok, rfl⟩ := h
  obtain ⟨_, _, rfl, rfl, hok⟩ := hok
  obtain ⟨_, _, rfl, rfl, hok⟩ := hok
  obtain ⟨_, _, rfl, ⟨u2, rfl, g2⟩, hok⟩ := hok
  obtain ⟨_, _, rfl, ⟨u3, rfl, g3⟩, hok⟩ := hok
  obtain ⟨_, _, rfl, ⟨u4, rfl, g4⟩, hok⟩ := hok
  obtain ⟨_, _, rfl, ⟨u5, rfl, g5⟩, hok⟩ := hok
  obtain rfl := hok
  exact ⟨u2, u3, u4, u5, rfl, g2.repV, g3.repV, g4.repV, g5.repV⟩
theorem Property.pk {G : Store} (d : Property) {u2 u3 u4 u5 : Value} (h2 : RepV G u2 d.start) (h3 : RepV G u3 d.bad) (h4 : RepV G u4 d.adjacent) (h5 : RepV G u5 d.goal) : RepV G (.agg #[.string d.name, .int .i64 d.kind, u2, u3, u4, u5]) d := by
  obtain ⟨c2, g2, rfl⟩ := h2
  obtain ⟨c3, g3, rfl⟩ := h3
  obtain ⟨c4, g4, rfl⟩ := h4
  obtain ⟨c5, g5, rfl⟩ := h5
  obtain ⟨w2, rfl⟩ := one_cell (by rfl) g2
  obtain ⟨w3, rfl⟩ := one_cell (by rfl) g3
  obtain ⟨w4, rfl⟩ := one_cell (by rfl) g4
  obtain ⟨w5, rfl⟩ := one_cell (by rfl) g5
  exact ⟨_, ⟨_, _, rfl, rfl, ⟨_, _, rfl, rfl, ⟨_, _, rfl, g2, ⟨_, _, rfl, g3, ⟨_, _, rfl, g4, ⟨_, _, rfl, g5, rfl⟩⟩⟩⟩⟩⟩, rfl⟩
instance : SRep Leaf where
  flds d := [⟨Int, d.letter⟩, ⟨Int, d.to⟩]
  sz := 2
  hsz _ := by kernel_rfl
theorem Leaf.unp {G : Store} {v : Value} {d : Leaf} (h : RepV G v d) : v = .agg #[.int .i64 d.letter, .int .i64 d.to] := by
  obtain ⟨cs, hok, rfl⟩ := h
  obtain ⟨_, _, rfl, rfl, hok⟩ := hok
  obtain ⟨_, _, rfl, rfl, hok⟩ := hok
  obtain rfl := hok
  rfl
theorem Leaf.pk {G : Store} (d : Leaf) : RepV G (.agg #[.int .i64 d.letter, .int .i64 d.to]) d := by
  exact ⟨_, ⟨_, _, rfl, rfl, ⟨_, _, rfl, rfl, rfl⟩⟩, rfl⟩
instance : SRep Branch where
  flds d := [⟨Int, d.letter⟩, ⟨Int, d.first⟩, ⟨Int, d.second⟩, ⟨Int, d.to⟩]
  sz := 4
  hsz _ := by kernel_rfl
theorem Branch.unp {G : Store} {v : Value} {d : Branch} (h : RepV G v d) : v = .agg #[.int .i64 d.letter, .int .i64 d.first, .int .i64 d.second, .int .i64 d.to] := by
  obtain ⟨cs, hok, rfl⟩ := h
  obtain ⟨_, _, rfl, rfl, hok⟩ := hok
  obtain ⟨_, _, rfl, rfl, hok⟩ := hok
  obtain ⟨_, _, rfl, rfl, hok⟩ := hok
  obtain ⟨_, _, rfl, rfl, hok⟩ := hok
  obtain rfl := hok
  rfl
theorem Branch.pk {G : Store} (d : Branch) : RepV G (.agg #[.int .i64 d.letter, .int .i64 d.first, .int .i64 d.second, .int .i64 d.to]) d := by
  exact ⟨_, ⟨_, _, rfl, rfl, ⟨_, _, rfl, rfl, ⟨_, _, rfl, rfl, ⟨_, _, rfl, rfl, rfl⟩⟩⟩⟩, rfl⟩
instance : SRep TreeAutomaton where
  flds d := [⟨Int, d.letters⟩, ⟨Int, d.states⟩, ⟨List Int, d.accept⟩, ⟨List Leaf, d.leaves⟩, ⟨List Branch, d.branches⟩]
  sz := 5
  hsz _ := by kernel_rfl
theorem TreeAutomaton.unp {G : Store} {v : Value} {d : TreeAutomaton} (h : RepV G v d) : ∃ u2 u3 u4, v = .agg #[.int .i64 d.letters, .int .i64 d.states, u2, u3, u4] ∧ RepV G u2 d.accept ∧ RepV G u3 d.leaves ∧ RepV G u4 d.branches := by
  obtain ⟨cs, hok, rfl⟩ := h
  obtain ⟨_, _, rfl, rfl, hok⟩ := hok
  obtain ⟨_, _, rfl, rfl, hok⟩ := hok
  obtain ⟨_, _, rfl, ⟨u2, rfl, g2⟩, hok⟩ := hok
  obtain ⟨_, _, rfl, ⟨u3, rfl, g3⟩, hok⟩ := hok
  obtain ⟨_, _, rfl, ⟨u4, rfl, g4⟩, hok⟩ := hok
  obtain rfl := hok
  exact ⟨u2, u3, u4, rfl, g2.repV, g3.repV, g4.repV⟩
theorem TreeAutomaton.pk {G : Store} (d : TreeAutomaton) {u2 u3 u4 : Value} (h2 : RepV G u2 d.accept) (h3 : RepV G u3 d.leaves) (h4 : RepV G u4 d.branches) : RepV G (.agg #[.int .i64 d.letters, .int .i64 d.states, u2, u3, u4]) d := by
  obtain ⟨c2, g2, rfl⟩ := h2
  obtain ⟨c3, g3, rfl⟩ := h3
  obtain ⟨c4, g4, rfl⟩ := h4
  obtain ⟨w2, rfl⟩ := one_cell (by rfl) g2
  obtain ⟨w3, rfl⟩ := one_cell (by rfl) g3
  obtain ⟨w4, rfl⟩ := one_cell (by rfl) g4
  exact ⟨_, ⟨_, _, rfl, rfl, ⟨_, _, rfl, rfl, ⟨_, _, rfl, g2, ⟨_, _, rfl, g3, ⟨_, _, rfl, g4, rfl⟩⟩⟩⟩⟩, rfl⟩
instance : SRep Tree where
  flds d := [⟨List Int, d.shape⟩, ⟨List Int, d.labels⟩]
  sz := 2
  hsz _ := by kernel_rfl
theorem Tree.unp {G : Store} {v : Value} {d : Tree} (h : RepV G v d) : ∃ u0 u1, v = .agg #[u0, u1] ∧ RepV G u0 d.shape ∧ RepV G u1 d.labels := by
  obtain ⟨cs, hok, rfl⟩ := h
  obtain ⟨_, _, rfl, ⟨u0, rfl, g0⟩, hok⟩ := hok
  obtain ⟨_, _, rfl, ⟨u1, rfl, g1⟩, hok⟩ := hok
  obtain rfl := hok
  exact ⟨u0, u1, rfl, g0.repV, g1.repV⟩
theorem Tree.pk {G : Store} (d : Tree) {u0 u1 : Value} (h0 : RepV G u0 d.shape) (h1 : RepV G u1 d.labels) : RepV G (.agg #[u0, u1]) d := by
  obtain ⟨c0, g0, rfl⟩ := h0
  obtain ⟨c1, g1, rfl⟩ := h1
  obtain ⟨w0, rfl⟩ := one_cell (by rfl) g0
  obtain ⟨w1, rfl⟩ := one_cell (by rfl) g1
  exact ⟨_, ⟨_, _, rfl, g0, ⟨_, _, rfl, g1, rfl⟩⟩, rfl⟩
instance : SRep Size where
  flds d := [⟨Int, d.n⟩, ⟨Int, d.t⟩, ⟨Int, d.f⟩]
  sz := 3
  hsz _ := by kernel_rfl
theorem Size.unp {G : Store} {v : Value} {d : Size} (h : RepV G v d) : v = .agg #[.int .i64 d.n, .int .i64 d.t, .int .i64 d.f] := by
  obtain ⟨cs, hok, rfl⟩ := h
  obtain ⟨_, _, rfl, rfl, hok⟩ := hok
  obtain ⟨_, _, rfl, rfl, hok⟩ := hok
  obtain ⟨_, _, rfl, rfl, hok⟩ := hok
  obtain rfl := hok
  rfl
theorem Size.pk {G : Store} (d : Size) : RepV G (.agg #[.int .i64 d.n, .int .i64 d.t, .int .i64 d.f]) d := by
  exact ⟨_, ⟨_, _, rfl, rfl, ⟨_, _, rfl, rfl, ⟨_, _, rfl, rfl, rfl⟩⟩⟩, rfl⟩
instance : SRep Config where
  flds d := [⟨List Int, d.shape⟩, ⟨List Int, d.states⟩, ⟨Int, d.correct⟩, ⟨List Int, d.sent⟩, ⟨List Int, d.faulty⟩, ⟨Int, d.value⟩]
  sz := 6
  hsz _ := by kernel_rfl
theorem Config.unp {G : Store} {v : Value} {d : Config} (h : RepV G v d) : ∃ u0 u1 u3 u4, v = .agg #[u0, u1, .int .i64 d.correct, u3, u4, .int .i64 d.value] ∧ RepV G u0 d.shape ∧ RepV G u1 d.states ∧ RepV G u3 d.sent ∧ RepV G u4 d.faulty := by
  obtain ⟨cs, hok, rfl⟩ := h
  obtain ⟨_, _, rfl, ⟨u0, rfl, g0⟩, hok⟩ := hok
  obtain ⟨_, _, rfl, ⟨u1, rfl, g1⟩, hok⟩ := hok
  obtain ⟨_, _, rfl, rfl, hok⟩ := hok
  obtain ⟨_, _, rfl, ⟨u3, rfl, g3⟩, hok⟩ := hok
  obtain ⟨_, _, rfl, ⟨u4, rfl, g4⟩, hok⟩ := hok
  obtain ⟨_, _, rfl, rfl, hok⟩ := hok
  obtain rfl := hok
  exact ⟨u0, u1, u3, u4, rfl, g0.repV, g1.repV, g3.repV, g4.repV⟩
theorem Config.pk {G : Store} (d : Config) {u0 u1 u3 u4 : Value} (h0 : RepV G u0 d.shape) (h1 : RepV G u1 d.states) (h3 : RepV G u3 d.sent) (h4 : RepV G u4 d.faulty) : RepV G (.agg #[u0, u1, .int .i64 d.correct, u3, u4, .int .i64 d.value]) d := by
  obtain ⟨c0, g0, rfl⟩ := h0
  obtain ⟨c1, g1, rfl⟩ := h1
  obtain ⟨c3, g3, rfl⟩ := h3
  obtain ⟨c4, g4, rfl⟩ := h4
  obtain ⟨w0, rfl⟩ := one_cell (by rfl) g0
  obtain ⟨w1, rfl⟩ := one_cell (by rfl) g1
  obtain ⟨w3, rfl⟩ := one_cell (by rfl) g3
  obtain ⟨w4, rfl⟩ := one_cell (by rfl) g4
  exact ⟨_, ⟨_, _, rfl, g0, ⟨_, _, rfl, g1, ⟨_, _, rfl, rfl, ⟨_, _, rfl, g3, ⟨_, _, rfl, g4, ⟨_, _, rfl, rfl, rfl⟩⟩⟩⟩⟩⟩, rfl⟩
instance : SRep Bounds where
  flds d := [⟨Int, d.depth⟩, ⟨Int, d.rounds⟩]
  sz := 2
  hsz _ := by kernel_rfl
theorem Bounds.unp {G : Store} {v : Value} {d : Bounds} (h : RepV G v d) : v = .agg #[.int .i64 d.depth, .int .i64 d.rounds] := by
  obtain ⟨cs, hok, rfl⟩ := h
  obtain ⟨_, _, rfl, rfl, hok⟩ := hok
  obtain ⟨_, _, rfl, rfl, hok⟩ := hok
  obtain rfl := hok
  rfl
theorem Bounds.pk {G : Store} (d : Bounds) : RepV G (.agg #[.int .i64 d.depth, .int .i64 d.rounds]) d := by
  exact ⟨_, ⟨_, _, rfl, rfl, ⟨_, _, rfl, rfl, rfl⟩⟩, rfl⟩
instance : SRep TableR where
  flds d := [⟨Int, d.letters⟩, ⟨List Int, d.leaf⟩, ⟨List (List (List Int)), d.branch⟩, ⟨List Bool, d.accept⟩]
  sz := 4
  hsz _ := by kernel_rfl
theorem TableR.unp {G : Store} {v : Value} {d : TableR} (h : RepV G v d) : ∃ u1 u2 u3, v = .agg #[.int .i64 d.letters, u1, u2, u3] ∧ RepV G u1 d.leaf ∧ RepV G u2 d.branch ∧ RepV G u3 d.accept := by
  obtain ⟨cs, hok, rfl⟩ := h
  obtain ⟨_, _, rfl, rfl, hok⟩ := hok
  obtain ⟨_, _, rfl, ⟨u1, rfl, g1⟩, hok⟩ := hok
  obtain ⟨_, _, rfl, ⟨u2, rfl, g2⟩, hok⟩ := hok
  obtain ⟨_, _, rfl, ⟨u3, rfl, g3⟩, hok⟩ := hok
  obtain rfl := hok
  exact ⟨u1, u2, u3, rfl, g1.repV, g2.repV, g3.repV⟩
theorem TableR.pk {G : Store} (d : TableR) {u1 u2 u3 : Value} (h1 : RepV G u1 d.leaf) (h2 : RepV G u2 d.branch) (h3 : RepV G u3 d.accept) : RepV G (.agg #[.int .i64 d.letters, u1, u2, u3]) d := by
  obtain ⟨c1, g1, rfl⟩ := h1
  obtain ⟨c2, g2, rfl⟩ := h2
  obtain ⟨c3, g3, rfl⟩ := h3
  obtain ⟨w1, rfl⟩ := one_cell (by rfl) g1
  obtain ⟨w2, rfl⟩ := one_cell (by rfl) g2
  obtain ⟨w3, rfl⟩ := one_cell (by rfl) g3
  exact ⟨_, ⟨_, _, rfl, rfl, ⟨_, _, rfl, g1, ⟨_, _, rfl, g2, ⟨_, _, rfl, g3, rfl⟩⟩⟩⟩, rfl⟩
instance : SRep operation where
  flds d := [⟨Bool → Bool → Option Bool, d.join⟩]
  sz := 1
  hsz _ := by kernel_rfl
theorem operation.unp {G : Store} {v : Value} {d : operation} (h : RepV G v d) : ∃ u0, v = .agg #[u0] ∧ RepV G u0 d.join := by
  obtain ⟨cs, hok, rfl⟩ := h
  obtain ⟨c0, _, rfl, g0, hok⟩ := hok
  obtain ⟨u0, rfl⟩ := one_cell (by rfl) g0
  obtain rfl := hok
  exact ⟨u0, rfl, ⟨_, g0, rfl⟩⟩
theorem operation.pk {G : Store} (d : operation) {u0 : Value} (h0 : RepV G u0 d.join) : RepV G (.agg #[u0]) d := by
  obtain ⟨c0, g0, rfl⟩ := h0
  obtain ⟨w0, rfl⟩ := one_cell (by rfl) g0
  exact ⟨_, ⟨_, _, rfl, g0, rfl⟩, rfl⟩
instance : SRep Classes where
  flds d := [⟨Bool, d.threshold⟩, ⟨Bool, d.cover⟩, ⟨Bool, d.word⟩, ⟨Bool, d.tree⟩, ⟨Bool, d.monadic⟩]
  sz := 5
  hsz _ := by kernel_rfl
theorem Classes.unp {G : Store} {v : Value} {d : Classes} (h : RepV G v d) : v = .agg #[.bool d.threshold, .bool d.cover, .bool d.word, .bool d.tree, .bool d.monadic] := by
  obtain ⟨cs, hok, rfl⟩ := h
  obtain ⟨_, _, rfl, rfl, hok⟩ := hok
  obtain ⟨_, _, rfl, rfl, hok⟩ := hok
  obtain ⟨_, _, rfl, rfl, hok⟩ := hok
  obtain ⟨_, _, rfl, rfl, hok⟩ := hok
  obtain ⟨_, _, rfl, rfl, hok⟩ := hok
  obtain rfl := hok
  rfl
theorem Classes.pk {G : Store} (d : Classes) : RepV G (.agg #[.bool d.threshold, .bool d.cover, .bool d.word, .bool d.tree, .bool d.monadic]) d := by
  exact ⟨_, ⟨_, _, rfl, rfl, ⟨_, _, rfl, rfl, ⟨_, _, rfl, rfl, ⟨_, _, rfl, rfl, ⟨_, _, rfl, rfl, rfl⟩⟩⟩⟩⟩, rfl⟩
instance : SRep part where
  flds d := [⟨Bool, d.inner⟩, ⟨Bool, d.whole⟩]
  sz := 2
  hsz _ := by kernel_rfl
theorem part.unp {G : Store} {v : Value} {d : part} (h : RepV G v d) : v = .agg #[.bool d.inner, .bool d.whole] := by
  obtain ⟨cs, hok, rfl⟩ := h
  obtain ⟨_, _, rfl, rfl, hok⟩ := hok
  obtain ⟨_, _, rfl, rfl, hok⟩ := hok
  obtain rfl := hok
  rfl
theorem part.pk {G : Store} (d : part) : RepV G (.agg #[.bool d.inner, .bool d.whole]) d := by
  exact ⟨_, ⟨_, _, rfl, rfl, ⟨_, _, rfl, rfl, rfl⟩⟩, rfl⟩
instance : SRep machine where
  flds d := [⟨Int, d.letters⟩, ⟨List Bool, d.accept⟩, ⟨List Int, d.leaf⟩, ⟨List (List (List Int)), d.branch⟩]
  sz := 4
  hsz _ := by kernel_rfl
theorem machine.unp {G : Store} {v : Value} {d : machine} (h : RepV G v d) : ∃ u1 u2 u3, v = .agg #[.int .i64 d.letters, u1, u2, u3] ∧ RepV G u1 d.accept ∧ RepV G u2 d.leaf ∧ RepV G u3 d.branch := by
  obtain ⟨cs, hok, rfl⟩ := h
  obtain ⟨_, _, rfl, rfl, hok⟩ := hok
  obtain ⟨_, _, rfl, ⟨u1, rfl, g1⟩, hok⟩ := hok
  obtain ⟨_, _, rfl, ⟨u2, rfl, g2⟩, hok⟩ := hok
  obtain ⟨_, _, rfl, ⟨u3, rfl, g3⟩, hok⟩ := hok
  obtain rfl := hok
  exact ⟨u1, u2, u3, rfl, g1.repV, g2.repV, g3.repV⟩
theorem machine.pk {G : Store} (d : machine) {u1 u2 u3 : Value} (h1 : RepV G u1 d.accept) (h2 : RepV G u2 d.leaf) (h3 : RepV G u3 d.branch) : RepV G (.agg #[.int .i64 d.letters, u1, u2, u3]) d := by
  obtain ⟨c1, g1, rfl⟩ := h1
  obtain ⟨c2, g2, rfl⟩ := h2
  obtain ⟨c3, g3, rfl⟩ := h3
  obtain ⟨w1, rfl⟩ := one_cell (by rfl) g1
  obtain ⟨w2, rfl⟩ := one_cell (by rfl) g2
  obtain ⟨w3, rfl⟩ := one_cell (by rfl) g3
  exact ⟨_, ⟨_, _, rfl, rfl, ⟨_, _, rfl, g1, ⟨_, _, rfl, g2, ⟨_, _, rfl, g3, rfl⟩⟩⟩⟩, rfl⟩
instance : SRep part2 where
  flds d := [⟨Arr3_3, d.counts⟩, ⟨Bool, d.found⟩, ⟨Bool, d.below⟩]
  sz := 5
  hsz _ := by kernel_rfl
theorem part2.unp {G : Store} {v : Value} {d : part2} (h : RepV G v d) : v = .agg #[.int .i64 d.counts.x0, .int .i64 d.counts.x1, .int .i64 d.counts.x2, .bool d.found, .bool d.below] := by
  obtain ⟨cs, hok, rfl⟩ := h
  obtain ⟨bhok0, rhok0, rfl, qhok0, hok⟩ := hok
  obtain ⟨_, _, rfl, rfl, qhok0⟩ := qhok0
  obtain ⟨_, _, rfl, rfl, qhok0⟩ := qhok0
  obtain ⟨_, _, rfl, rfl, qhok0⟩ := qhok0
  obtain rfl := qhok0
  obtain ⟨_, _, rfl, rfl, hok⟩ := hok
  obtain ⟨_, _, rfl, rfl, hok⟩ := hok
  obtain rfl := hok
  rfl
theorem part2.pk {G : Store} (d : part2) : RepV G (.agg #[.int .i64 d.counts.x0, .int .i64 d.counts.x1, .int .i64 d.counts.x2, .bool d.found, .bool d.below]) d := by
  exact ⟨_, ⟨_, _, rfl, ⟨_, _, rfl, rfl, ⟨_, _, rfl, rfl, ⟨_, _, rfl, rfl, rfl⟩⟩⟩, ⟨_, _, rfl, rfl, ⟨_, _, rfl, rfl, rfl⟩⟩⟩, rfl⟩
instance : SRep afterR where
  flds d := [⟨Int, d.same⟩, ⟨Int, d.root⟩, ⟨Int, d.done⟩, ⟨Int, d.wait⟩, ⟨Int, d.half⟩, ⟨Int, d.top⟩]
  sz := 6
  hsz _ := by kernel_rfl
theorem afterR.unp {G : Store} {v : Value} {d : afterR} (h : RepV G v d) : v = .agg #[.int .i64 d.same, .int .i64 d.root, .int .i64 d.done, .int .i64 d.wait, .int .i64 d.half, .int .i64 d.top] := by
  obtain ⟨cs, hok, rfl⟩ := h
  obtain ⟨_, _, rfl, rfl, hok⟩ := hok
  obtain ⟨_, _, rfl, rfl, hok⟩ := hok
  obtain ⟨_, _, rfl, rfl, hok⟩ := hok
  obtain ⟨_, _, rfl, rfl, hok⟩ := hok
  obtain ⟨_, _, rfl, rfl, hok⟩ := hok
  obtain ⟨_, _, rfl, rfl, hok⟩ := hok
  obtain rfl := hok
  rfl
theorem afterR.pk {G : Store} (d : afterR) : RepV G (.agg #[.int .i64 d.same, .int .i64 d.root, .int .i64 d.done, .int .i64 d.wait, .int .i64 d.half, .int .i64 d.top]) d := by
  exact ⟨_, ⟨_, _, rfl, rfl, ⟨_, _, rfl, rfl, ⟨_, _, rfl, rfl, ⟨_, _, rfl, rfl, ⟨_, _, rfl, rfl, ⟨_, _, rfl, rfl, rfl⟩⟩⟩⟩⟩⟩, rfl⟩
instance : SRep behindsR where
  flds d := [⟨List afterR, d.all⟩]
  sz := 1
  hsz _ := by kernel_rfl
theorem behindsR.unp {G : Store} {v : Value} {d : behindsR} (h : RepV G v d) : ∃ u0, v = .agg #[u0] ∧ RepV G u0 d.all := by
  obtain ⟨cs, hok, rfl⟩ := h
  obtain ⟨_, _, rfl, ⟨u0, rfl, g0⟩, hok⟩ := hok
  obtain rfl := hok
  exact ⟨u0, rfl, g0.repV⟩
theorem behindsR.pk {G : Store} (d : behindsR) {u0 : Value} (h0 : RepV G u0 d.all) : RepV G (.agg #[u0]) d := by
  obtain ⟨c0, g0, rfl⟩ := h0
  obtain ⟨w0, rfl⟩ := one_cell (by rfl) g0
  exact ⟨_, ⟨_, _, rfl, g0, rfl⟩, rfl⟩
instance : SRep pairsR where
  flds d := [⟨List Int, d.a⟩, ⟨List Int, d.b⟩]
  sz := 2
  hsz _ := by kernel_rfl
theorem pairsR.unp {G : Store} {v : Value} {d : pairsR} (h : RepV G v d) : ∃ u0 u1, v = .agg #[u0, u1] ∧ RepV G u0 d.a ∧ RepV G u1 d.b := by
  obtain ⟨cs, hok, rfl⟩ := h
  obtain ⟨_, _, rfl, ⟨u0, rfl, g0⟩, hok⟩ := hok
  obtain ⟨_, _, rfl, ⟨u1, rfl, g1⟩, hok⟩ := hok
  obtain rfl := hok
  exact ⟨u0, u1, rfl, g0.repV, g1.repV⟩
theorem pairsR.pk {G : Store} (d : pairsR) {u0 u1 : Value} (h0 : RepV G u0 d.a) (h1 : RepV G u1 d.b) : RepV G (.agg #[u0, u1]) d := by
  obtain ⟨c0, g0, rfl⟩ := h0
  obtain ⟨c1, g1, rfl⟩ := h1
  obtain ⟨w0, rfl⟩ := one_cell (by rfl) g0
  obtain ⟨w1, rfl⟩ := one_cell (by rfl) g1
  exact ⟨_, ⟨_, _, rfl, g0, ⟨_, _, rfl, g1, rfl⟩⟩, rfl⟩
instance : SRep both where
  flds d := [⟨Int, d.p⟩, ⟨Int, d.q⟩]
  sz := 2
  hsz _ := by kernel_rfl
theorem both.unp {G : Store} {v : Value} {d : both} (h : RepV G v d) : v = .agg #[.int .i64 d.p, .int .i64 d.q] := by
  obtain ⟨cs, hok, rfl⟩ := h
  obtain ⟨_, _, rfl, rfl, hok⟩ := hok
  obtain ⟨_, _, rfl, rfl, hok⟩ := hok
  obtain rfl := hok
  rfl
theorem both.pk {G : Store} (d : both) : RepV G (.agg #[.int .i64 d.p, .int .i64 d.q]) d := by
  exact ⟨_, ⟨_, _, rfl, rfl, ⟨_, _, rfl, rfl, rfl⟩⟩, rfl⟩
instance : SRep rewriter where
  flds d := [⟨Rule, d.r⟩, ⟨Option machine, d.m⟩]
  sz := 19
  hsz _ := by kernel_rfl
theorem rewriter.unp {G : Store} {v : Value} {d : rewriter} (h : RepV G v d) : ∃ u6 u7 u8 u9 u12 u14 u15 u16 u18, v = .agg #[.string d.r.name, .int .i64 d.r.kind, .int .i64 d.r.frm, .int .i64 d.r.to, .int .i64 d.r.partnerFrom, .int .i64 d.r.partnerTo, u6, u7, u8, u9, .int .i64 d.r.read, .int .i64 d.r.write, u12, .int .i64 d.r.at_, u14, u15, u16, .int .i64 d.r.direction, u18] ∧ RepV G u6 d.r.response ∧ RepV G u7 d.r.guards ∧ RepV G u8 d.r.exists_ ∧ RepV G u9 d.r.forall_ ∧ RepV G u12 d.r.send ∧ RepV G u14 d.r.left ∧ RepV G u15 d.r.right ∧ RepV G u16 d.r.parent ∧ RepV G u18 d.m := by
  obtain ⟨cs, hok, rfl⟩ := h
  obtain ⟨bhok0, rhok0, rfl, qhok0, hok⟩ := hok
  obtain ⟨_, _, rfl, rfl, qhok0⟩ := qhok0
  obtain ⟨_, _, rfl, rfl, qhok0⟩ := qhok0
  obtain ⟨_, _, rfl, rfl, qhok0⟩ := qhok0
  obtain ⟨_, _, rfl, rfl, qhok0⟩ := qhok0
  obtain ⟨_, _, rfl, rfl, qhok0⟩ := qhok0
  obtain ⟨_, _, rfl, rfl, qhok0⟩ := qhok0
  obtain ⟨_, _, rfl, ⟨u6, rfl, g6⟩, qhok0⟩ := qhok0
  obtain ⟨_, _, rfl, ⟨u7, rfl, g7⟩, qhok0⟩ := qhok0
  obtain ⟨_, _, rfl, ⟨u8, rfl, g8⟩, qhok0⟩ := qhok0
  obtain ⟨_, _, rfl, ⟨u9, rfl, g9⟩, qhok0⟩ := qhok0
  obtain ⟨_, _, rfl, rfl, qhok0⟩ := qhok0
  obtain ⟨_, _, rfl, rfl, qhok0⟩ := qhok0
  obtain ⟨_, _, rfl, ⟨u12, rfl, g12⟩, qhok0⟩ := qhok0
  obtain ⟨_, _, rfl, rfl, qhok0⟩ := qhok0
  obtain ⟨_, _, rfl, ⟨u14, rfl, g14⟩, qhok0⟩ := qhok0
  obtain ⟨_, _, rfl, ⟨u15, rfl, g15⟩, qhok0⟩ := qhok0
  obtain ⟨_, _, rfl, ⟨u16, rfl, g16⟩, qhok0⟩ := qhok0
  obtain ⟨_, _, rfl, rfl, qhok0⟩ := qhok0
  obtain rfl := qhok0
  obtain ⟨c18, _, rfl, g18, hok⟩ := hok
  obtain ⟨u18, rfl⟩ := one_cell (by rfl) g18
  obtain rfl := hok
  exact ⟨u6, u7, u8, u9, u12, u14, u15, u16, u18, rfl, g6.repV, g7.repV, g8.repV, g9.repV, g12.repV, g14.repV, g15.repV, g16.repV, ⟨_, g18, rfl⟩⟩
theorem rewriter.pk {G : Store} (d : rewriter) {u6 u7 u8 u9 u12 u14 u15 u16 u18 : Value} (h6 : RepV G u6 d.r.response) (h7 : RepV G u7 d.r.guards) (h8 : RepV G u8 d.r.exists_) (h9 : RepV G u9 d.r.forall_) (h12 : RepV G u12 d.r.send) (h14 : RepV G u14 d.r.left) (h15 : RepV G u15 d.r.right) (h16 : RepV G u16 d.r.parent) (h18 : RepV G u18 d.m) : RepV G (.agg #[.string d.r.name, .int .i64 d.r.kind, .int .i64 d.r.frm, .int .i64 d.r.to, .int .i64 d.r.partnerFrom, .int .i64 d.r.partnerTo, u6, u7, u8, u9, .int .i64 d.r.read, .int .i64 d.r.write, u12, .int .i64 d.r.at_, u14, u15, u16, .int .i64 d.r.direction, u18]) d := by
  obtain ⟨c6, g6, rfl⟩ := h6
  obtain ⟨c7, g7, rfl⟩ := h7
  obtain ⟨c8, g8, rfl⟩ := h8
  obtain ⟨c9, g9, rfl⟩ := h9
  obtain ⟨c12, g12, rfl⟩ := h12
  obtain ⟨c14, g14, rfl⟩ := h14
  obtain ⟨c15, g15, rfl⟩ := h15
  obtain ⟨c16, g16, rfl⟩ := h16
  obtain ⟨c18, g18, rfl⟩ := h18
  obtain ⟨w6, rfl⟩ := one_cell (by rfl) g6
  obtain ⟨w7, rfl⟩ := one_cell (by rfl) g7
  obtain ⟨w8, rfl⟩ := one_cell (by rfl) g8
  obtain ⟨w9, rfl⟩ := one_cell (by rfl) g9
  obtain ⟨w12, rfl⟩ := one_cell (by rfl) g12
  obtain ⟨w14, rfl⟩ := one_cell (by rfl) g14
  obtain ⟨w15, rfl⟩ := one_cell (by rfl) g15
  obtain ⟨w16, rfl⟩ := one_cell (by rfl) g16
  obtain ⟨w18, rfl⟩ := one_cell (by rfl) g18
  exact ⟨_, ⟨_, _, rfl, ⟨_, _, rfl, rfl, ⟨_, _, rfl, rfl, ⟨_, _, rfl, rfl, ⟨_, _, rfl, rfl, ⟨_, _, rfl, rfl, ⟨_, _, rfl, rfl, ⟨_, _, rfl, g6, ⟨_, _, rfl, g7, ⟨_, _, rfl, g8, ⟨_, _, rfl, g9, ⟨_, _, rfl, rfl, ⟨_, _, rfl, rfl, ⟨_, _, rfl, g12, ⟨_, _, rfl, rfl, ⟨_, _, rfl, g14, ⟨_, _, rfl, g15, ⟨_, _, rfl, g16, ⟨_, _, rfl, rfl, rfl⟩⟩⟩⟩⟩⟩⟩⟩⟩⟩⟩⟩⟩⟩⟩⟩⟩⟩, ⟨_, _, rfl, g18, rfl⟩⟩, rfl⟩
instance : SRep before where
  flds d := [⟨Int, d.way⟩, ⟨Int, d.q⟩]
  sz := 2
  hsz _ := by kernel_rfl
theorem before.unp {G : Store} {v : Value} {d : before} (h : RepV G v d) : v = .agg #[.int .i64 d.way, .int .i64 d.q] := by
  obtain ⟨cs, hok, rfl⟩ := h
  obtain ⟨_, _, rfl, rfl, hok⟩ := hok
  obtain ⟨_, _, rfl, rfl, hok⟩ := hok
  obtain rfl := hok
  rfl
theorem before.pk {G : Store} (d : before) : RepV G (.agg #[.int .i64 d.way, .int .i64 d.q]) d := by
  exact ⟨_, ⟨_, _, rfl, rfl, ⟨_, _, rfl, rfl, rfl⟩⟩, rfl⟩
instance : SRep after where
  flds d := [⟨Int, d.state⟩, ⟨Int, d.letter⟩, ⟨before, d.s⟩]
  sz := 4
  hsz _ := by kernel_rfl
theorem after.unp {G : Store} {v : Value} {d : after} (h : RepV G v d) : v = .agg #[.int .i64 d.state, .int .i64 d.letter, .int .i64 d.s.way, .int .i64 d.s.q] := by
  obtain ⟨cs, hok, rfl⟩ := h
  obtain ⟨_, _, rfl, rfl, hok⟩ := hok
  obtain ⟨_, _, rfl, rfl, hok⟩ := hok
  obtain ⟨bhok2, rhok2, rfl, qhok2, hok⟩ := hok
  obtain ⟨_, _, rfl, rfl, qhok2⟩ := qhok2
  obtain ⟨_, _, rfl, rfl, qhok2⟩ := qhok2
  obtain rfl := qhok2
  obtain rfl := hok
  rfl
theorem after.pk {G : Store} (d : after) : RepV G (.agg #[.int .i64 d.state, .int .i64 d.letter, .int .i64 d.s.way, .int .i64 d.s.q]) d := by
  exact ⟨_, ⟨_, _, rfl, rfl, ⟨_, _, rfl, rfl, ⟨_, _, rfl, ⟨_, _, rfl, rfl, ⟨_, _, rfl, rfl, rfl⟩⟩, rfl⟩⟩⟩, rfl⟩
instance : SRep image where
  flds d := [⟨Int, d.letter⟩, ⟨U64, d.ways⟩]
  sz := 2
  hsz _ := by kernel_rfl
theorem image.unp {G : Store} {v : Value} {d : image} (h : RepV G v d) : v = .agg #[.int .i64 d.letter, .int .u64 d.ways.i] := by
  obtain ⟨cs, hok, rfl⟩ := h
  obtain ⟨_, _, rfl, rfl, hok⟩ := hok
  obtain ⟨_, _, rfl, rfl, hok⟩ := hok
  obtain rfl := hok
  rfl
theorem image.pk {G : Store} (d : image) : RepV G (.agg #[.int .i64 d.letter, .int .u64 d.ways.i]) d := by
  exact ⟨_, ⟨_, _, rfl, rfl, ⟨_, _, rfl, rfl, rfl⟩⟩, rfl⟩
instance : SRep setsR where
  flds d := [⟨List (List Bool), d.all⟩]
  sz := 1
  hsz _ := by kernel_rfl
theorem setsR.unp {G : Store} {v : Value} {d : setsR} (h : RepV G v d) : ∃ u0, v = .agg #[u0] ∧ RepV G u0 d.all := by
  obtain ⟨cs, hok, rfl⟩ := h
  obtain ⟨_, _, rfl, ⟨u0, rfl, g0⟩, hok⟩ := hok
  obtain rfl := hok
  exact ⟨u0, rfl, g0.repV⟩
theorem setsR.pk {G : Store} (d : setsR) {u0 : Value} (h0 : RepV G u0 d.all) : RepV G (.agg #[u0]) d := by
  obtain ⟨c0, g0, rfl⟩ := h0
  obtain ⟨w0, rfl⟩ := one_cell (by rfl) g0
  exact ⟨_, ⟨_, _, rfl, g0, rfl⟩, rfl⟩
end Go.Lg
set_option linter.unusedVariables false
set_option linter.unusedSimpArgs false
set_option maxRecDepth 100000
namespace Go.Lg
open Go Go.Proofs
theorem lgLaid : laidOutB Tryz.prog = true := by kernel_rfl
instance : KeyT Tryz.prog 3 Int where
  kv x := .int .i64 x
  ok x := KeyB.ok x
  keyed := Maps.int_keyed (q := .i64) (by kernel_rfl)
  lit x h := ⟨_, Maps.keyOf_int_mk (by kernel_rfl) h⟩
  inj x y h := by simpa using h
instance : KeyT Tryz.prog 9 ByteArray where
  kv x := .string x
  ok x := KeyB.ok x
  keyed := Maps.string_keyed (by kernel_rfl)
  lit x h := ⟨_, WideMaps.keyOf_string_mk (by kernel_rfl) (of_decide_eq_true (show decide (x.size ≤ maxLen) = true from h))⟩
  inj x y h := by simpa using h
instance : KeyT Tryz.prog 79 U64 where
  kv x := .int .u64 x.i
  ok x := KeyB.ok x
  keyed := Maps.int_keyed (q := .u64) (by kernel_rfl)
  lit x h := ⟨_, Maps.keyOf_int_mk (by kernel_rfl) h⟩
  inj x y h := by cases x; cases y; simp at h; simp [h]
theorem ky124 : ckL Tryz.prog 8 124 = some [.b, .b] := by kernel_rfl
theorem kyn124 : Nat.ble 8 (Tryz.prog.types.size + 1) = true := by kernel_rfl
instance : KeyT Tryz.prog 124 part where
  kv x := .agg #[.bool x.inner, .bool x.whole]
  ok x := KeyB.ok x
  keyed := Maps.Keyed.of_law (deep_law_gate lgLaid (Nat.le_of_ble_eq_true (by kernel_rfl)) (Nat.lt_of_lt_of_le (Nat.lt_succ_self 124) (Nat.le_of_ble_eq_true (by kernel_rfl))) (by kernel_rfl) (by kernel_rfl))
  lit x h := keyOf_wide (Nat.le_of_ble_eq_true kyn124) (by kernel_rfl) (by kernel_rfl) ky124 (by kernel_rfl) h
  inj x y h := by
    have h := congrArg (fun v => v.cells.toList) h
    simp only [Value.cells, List.cons.injEq, Value.bool.injEq, Value.int.injEq, Value.string.injEq, true_and, and_true] at h
    obtain ⟨_, _⟩ := x
    obtain ⟨_, _⟩ := y
    simp_all
theorem ky142 : ckL Tryz.prog 8 142 = some [.i .i64, .i .i64, .i .i64, .b, .b] := by kernel_rfl
theorem kyn142 : Nat.ble 8 (Tryz.prog.types.size + 1) = true := by kernel_rfl
instance : KeyT Tryz.prog 142 part2 where
  kv x := .agg #[.int .i64 x.counts.x0, .int .i64 x.counts.x1, .int .i64 x.counts.x2, .bool x.found, .bool x.below]
  ok x := KeyB.ok x
  keyed := Maps.Keyed.of_law (deep_law_gate lgLaid (Nat.le_of_ble_eq_true (by kernel_rfl)) (Nat.lt_of_lt_of_le (Nat.lt_succ_self 142) (Nat.le_of_ble_eq_true (by kernel_rfl))) (by kernel_rfl) (by kernel_rfl))
  lit x h := keyOf_wide (Nat.le_of_ble_eq_true kyn142) (by kernel_rfl) (by kernel_rfl) ky142 (by kernel_rfl) h
  inj x y h := by
    have h := congrArg (fun v => v.cells.toList) h
    simp only [Value.cells, List.cons.injEq, Value.bool.injEq, Value.int.injEq, Value.string.injEq, true_and, and_true] at h
    obtain ⟨⟨_, _, _⟩, _, _⟩ := x
    obtain ⟨⟨_, _, _⟩, _, _⟩ := y
    simp_all
theorem ky179 : ckL Tryz.prog 8 179 = some [.i .i64, .i .i64] := by kernel_rfl
theorem kyn179 : Nat.ble 8 (Tryz.prog.types.size + 1) = true := by kernel_rfl
instance : KeyT Tryz.prog 179 both where
  kv x := .agg #[.int .i64 x.p, .int .i64 x.q]
  ok x := KeyB.ok x
  keyed := Maps.Keyed.of_law (deep_law_gate lgLaid (Nat.le_of_ble_eq_true (by kernel_rfl)) (Nat.lt_of_lt_of_le (Nat.lt_succ_self 179) (Nat.le_of_ble_eq_true (by kernel_rfl))) (by kernel_rfl) (by kernel_rfl))
  lit x h := keyOf_wide (Nat.le_of_ble_eq_true kyn179) (by kernel_rfl) (by kernel_rfl) ky179 (by kernel_rfl) h
  inj x y h := by
    have h := congrArg (fun v => v.cells.toList) h
    simp only [Value.cells, List.cons.injEq, Value.bool.injEq, Value.int.injEq, Value.string.injEq, true_and, and_true] at h
    obtain ⟨_, _⟩ := x
    obtain ⟨_, _⟩ := y
    simp_all
theorem ky197 : ckL Tryz.prog 8 197 = some [.i .i64, .i .i64, .i .i64, .i .i64] := by kernel_rfl
theorem kyn197 : Nat.ble 8 (Tryz.prog.types.size + 1) = true := by kernel_rfl
instance : KeyT Tryz.prog 197 after where
  kv x := .agg #[.int .i64 x.state, .int .i64 x.letter, .int .i64 x.s.way, .int .i64 x.s.q]
  ok x := KeyB.ok x
  keyed := Maps.Keyed.of_law (deep_law_gate lgLaid (Nat.le_of_ble_eq_true (by kernel_rfl)) (Nat.lt_of_lt_of_le (Nat.lt_succ_self 197) (Nat.le_of_ble_eq_true (by kernel_rfl))) (by kernel_rfl) (by kernel_rfl))
  lit x h := keyOf_wide (Nat.le_of_ble_eq_true kyn197) (by kernel_rfl) (by kernel_rfl) ky197 (by kernel_rfl) h
  inj x y h := by
    have h := congrArg (fun v => v.cells.toList) h
    simp only [Value.cells, List.cons.injEq, Value.bool.injEq, Value.int.injEq, Value.string.injEq, true_and, and_true] at h
    obtain ⟨_, _, ⟨_, _⟩⟩ := x
    obtain ⟨_, _, ⟨_, _⟩⟩ := y
    simp_all
theorem ky225 : ckL Tryz.prog 8 225 = some [.i .i64, .i .u64] := by kernel_rfl
theorem kyn225 : Nat.ble 8 (Tryz.prog.types.size + 1) = true := by kernel_rfl
instance : KeyT Tryz.prog 225 image where
  kv x := .agg #[.int .i64 x.letter, .int .u64 x.ways.i]
  ok x := KeyB.ok x
  keyed := Maps.Keyed.of_law (deep_law_gate lgLaid (Nat.le_of_ble_eq_true (by kernel_rfl)) (Nat.lt_of_lt_of_le (Nat.lt_succ_self 225) (Nat.le_of_ble_eq_true (by kernel_rfl))) (by kernel_rfl) (by kernel_rfl))
  lit x h := keyOf_wide (Nat.le_of_ble_eq_true kyn225) (by kernel_rfl) (by kernel_rfl) ky225 (by kernel_rfl) h
  inj x y h := by
    have h := congrArg (fun v => v.cells.toList) h
    simp only [Value.cells, List.cons.injEq, Value.bool.injEq, Value.int.injEq, Value.string.injEq, true_and, and_true] at h
    obtain ⟨_, ⟨_⟩⟩ := x
    obtain ⟨_, ⟨_⟩⟩ := y
    simp_all
end Go.Lg
