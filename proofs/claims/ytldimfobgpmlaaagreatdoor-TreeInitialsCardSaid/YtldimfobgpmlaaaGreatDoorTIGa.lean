/- Closed facts on the program that the walks ask for. No conditions. -/
import Derived.Test.YtldimfobgpmlaaaGreatDoorTITy
set_option autoImplicit true
set_option linter.unusedVariables false
set_option maxRecDepth 100000
set_option maxHeartbeats 40000000
namespace Go.Lg
open Go Go.Proofs
theorem zero72 : zeroOf Tryz.prog 72 = some [.int .i64 0, .int .i64 0] := by kernel_rfl
theorem hmTryz : Tryz.prog.follows .mixedOrders = true := by kernel_rfl
theorem zero74 : zeroOf Tryz.prog 74 = some [.int .i64 0, .int .i64 0, .int .i64 0, .int .i64 0] := by kernel_rfl
theorem zero114 : zeroOf Tryz.prog 114 = some [.slice none 0 0, .int .i64 0] := by kernel_rfl
theorem elk3 : elOk Tryz.prog 3 1 8 = true := by kernel_rfl
theorem elk37 : elOk Tryz.prog 37 1 8 = true := by kernel_rfl
theorem okf45 : okFn Tryz.prog 45 = true := by kernel_rfl
theorem okf76 : okFn Tryz.prog 76 = true := by kernel_rfl
theorem okf118 : okFn Tryz.prog 118 = true := by kernel_rfl
theorem okf119 : okFn Tryz.prog 119 = true := by kernel_rfl
theorem okf120 : okFn Tryz.prog 120 = true := by kernel_rfl
theorem zero4 : zeroOf Tryz.prog 4 = some [.bool false] := by kernel_rfl
theorem elk4 : elOk Tryz.prog 4 1 1 = true := by kernel_rfl
theorem elk9 : elOk Tryz.prog 9 1 16 = true := by kernel_rfl
theorem ie266 : intStruct Tryz.prog 266 4 = true := by kernel_rfl
theorem okf38 : okFn Tryz.prog 38 = true := by kernel_rfl
theorem okf134 : okFn Tryz.prog 134 = true := by kernel_rfl
theorem okf136 : okFn Tryz.prog 136 = true := by kernel_rfl
theorem okf178 : okFn Tryz.prog 178 = true := by kernel_rfl
theorem zero293 : zeroOf Tryz.prog 293 = some [.int .i64 0, .int .i64 0, .int .i64 0, .int .i64 0, .int .i64 0, .int .i64 0] := by kernel_rfl
theorem ie72 : intStruct Tryz.prog 72 2 = true := by kernel_rfl
theorem ie74 : intStruct Tryz.prog 74 4 = true := by kernel_rfl
theorem okf27 : okFn Tryz.prog 27 = true := by kernel_rfl
theorem okf28 : okFn Tryz.prog 28 = true := by kernel_rfl
theorem okf36 : okFn Tryz.prog 36 = true := by kernel_rfl
theorem okf63 : okFn Tryz.prog 63 = true := by kernel_rfl
theorem okf64 : okFn Tryz.prog 64 = true := by kernel_rfl
theorem okf70 : okFn Tryz.prog 70 = true := by kernel_rfl
theorem okf77 : okFn Tryz.prog 77 = true := by kernel_rfl
theorem okf90 : okFn Tryz.prog 90 = true := by kernel_rfl
theorem okf124 : okFn Tryz.prog 124 = true := by kernel_rfl
theorem okf174 : okFn Tryz.prog 174 = true := by kernel_rfl
theorem okf181 : okFn Tryz.prog 181 = true := by kernel_rfl
theorem okf185 : okFn Tryz.prog 185 = true := by kernel_rfl
theorem okf196 : okFn Tryz.prog 196 = true := by kernel_rfl
theorem okf209 : okFn Tryz.prog 209 = true := by kernel_rfl
theorem okf214 : okFn Tryz.prog 214 = true := by kernel_rfl
theorem zero3 : zeroOf Tryz.prog 3 = some [.int .i64 0] := by kernel_rfl
theorem zero124 : zeroOf Tryz.prog 124 = some [.bool false, .bool false] := by kernel_rfl
theorem elk96 : elOk Tryz.prog 96 1 24 = true := by kernel_rfl
theorem elk293 : elOk Tryz.prog 293 6 48 = true := by kernel_rfl
theorem okf159 : okFn Tryz.prog 159 = true := by kernel_rfl
theorem okf160 : okFn Tryz.prog 160 = true := by kernel_rfl
theorem okf190 : okFn Tryz.prog 190 = true := by kernel_rfl
theorem okf207 : okFn Tryz.prog 207 = true := by kernel_rfl
theorem okf210 : okFn Tryz.prog 210 = true := by kernel_rfl
theorem zero36 : zeroOf Tryz.prog 36 = some [.int .i64 0, .int .i64 0, .slice none 0 0, .slice none 0 0, .slice none 0 0] := by kernel_rfl
theorem elk72 : elOk Tryz.prog 72 2 16 = true := by kernel_rfl
theorem elk74 : elOk Tryz.prog 74 4 32 = true := by kernel_rfl
theorem elk79 : elOk Tryz.prog 79 1 8 = true := by kernel_rfl
theorem elk124 : elOk Tryz.prog 124 2 2 = true := by kernel_rfl
theorem mok129 : mapOk Tryz.prog 129 124 3 = true := by kernel_rfl
theorem mz129 : (Tryz.prog.info? 3).bind (·.zero) = some (ValT.vv (ValT.zero (ν := Int))) := by kernel_rfl
theorem mok214 : mapOk Tryz.prog 214 3 3 = true := by kernel_rfl
theorem mz214 : (Tryz.prog.info? 3).bind (·.zero) = some (ValT.vv (ValT.zero (ν := Int))) := by kernel_rfl
theorem mok262 : mapOk Tryz.prog 262 79 3 = true := by kernel_rfl
theorem mz262 : (Tryz.prog.info? 3).bind (·.zero) = some (ValT.vv (ValT.zero (ν := Int))) := by kernel_rfl
theorem okf40 : okFn Tryz.prog 40 = true := by kernel_rfl
theorem okf86 : okFn Tryz.prog 86 = true := by kernel_rfl
theorem okf87 : okFn Tryz.prog 87 = true := by kernel_rfl
theorem okf97 : okFn Tryz.prog 97 = true := by kernel_rfl
theorem zero93 : zeroOf Tryz.prog 93 = some [.string ByteArray.empty, .int .i64 0, .int .i64 0, .int .i64 0, .int .i64 0, .int .i64 0, .slice none 0 0, .slice none 0 0, .slice none 0 0, .slice none 0 0, .int .i64 0, .int .i64 0, .slice none 0 0, .int .i64 0, .slice none 0 0, .slice none 0 0, .slice none 0 0, .int .i64 0] := by kernel_rfl
theorem okf132 : okFn Tryz.prog 132 = true := by kernel_rfl
theorem okf133 : okFn Tryz.prog 133 = true := by kernel_rfl
theorem okf182 : okFn Tryz.prog 182 = true := by kernel_rfl
theorem okf206 : okFn Tryz.prog 206 = true := by kernel_rfl
theorem zero98 : zeroOf Tryz.prog 98 = some [.int .i64 0, .slice none 0 0, .slice none 0 0, .slice none 0 0] := by kernel_rfl
theorem zero240 : zeroOf Tryz.prog 240 = some [.slice none 0 0] := by kernel_rfl
theorem elk24 : elOk Tryz.prog 24 1 24 = true := by kernel_rfl
theorem elk136 : elOk Tryz.prog 136 1 24 = true := by kernel_rfl
theorem okf52 : okFn Tryz.prog 52 = true := by kernel_rfl
theorem okf83 : okFn Tryz.prog 83 = true := by kernel_rfl
theorem okf155 : okFn Tryz.prog 155 = true := by kernel_rfl
theorem okf156 : okFn Tryz.prog 156 = true := by kernel_rfl
theorem okf157 : okFn Tryz.prog 157 = true := by kernel_rfl
theorem okf158 : okFn Tryz.prog 158 = true := by kernel_rfl
theorem zero34 : zeroOf Tryz.prog 34 = some [.slice none 0 0] := by kernel_rfl
theorem zero78 : zeroOf Tryz.prog 78 = some [.slice none 0 0] := by kernel_rfl
theorem zero79 : zeroOf Tryz.prog 79 = some [.int .u64 0] := by kernel_rfl
theorem zero135 : zeroOf Tryz.prog 135 = some [.int .i64 0, .slice none 0 0, .slice none 0 0, .slice none 0 0] := by kernel_rfl
theorem zero258 : zeroOf Tryz.prog 258 = some [.slice none 0 0] := by kernel_rfl
theorem zero264 : zeroOf Tryz.prog 264 = some [.int .i64 0, .int .i64 0, .map none, .slice none 0 0, .nilFunc, .nilFunc, .nilFunc] := by kernel_rfl
theorem elk34 : elOk Tryz.prog 34 1 24 = true := by kernel_rfl
theorem okf125 : okFn Tryz.prog 125 = true := by kernel_rfl
theorem okf169 : okFn Tryz.prog 169 = true := by kernel_rfl
theorem okf170 : okFn Tryz.prog 170 = true := by kernel_rfl
theorem okf171 : okFn Tryz.prog 171 = true := by kernel_rfl
theorem okf172 : okFn Tryz.prog 172 = true := by kernel_rfl
theorem okf180 : okFn Tryz.prog 180 = true := by kernel_rfl
theorem okf193 : okFn Tryz.prog 193 = true := by kernel_rfl
theorem th293 : nestStruct Tryz.prog 293 = true := by kernel_rfl
theorem okf13 : okFn Tryz.prog 13 = true := by kernel_rfl
theorem okf30 : okFn Tryz.prog 30 = true := by kernel_rfl
theorem okf34 : okFn Tryz.prog 34 = true := by kernel_rfl
theorem okf35 : okFn Tryz.prog 35 = true := by kernel_rfl
theorem okf49 : okFn Tryz.prog 49 = true := by kernel_rfl
theorem okf75 : okFn Tryz.prog 75 = true := by kernel_rfl
theorem okf96 : okFn Tryz.prog 96 = true := by kernel_rfl
theorem okf131 : okFn Tryz.prog 131 = true := by kernel_rfl
theorem okf183 : okFn Tryz.prog 183 = true := by kernel_rfl
theorem okf184 : okFn Tryz.prog 184 = true := by kernel_rfl
theorem okf204 : okFn Tryz.prog 204 = true := by kernel_rfl
theorem okf211 : okFn Tryz.prog 211 = true := by kernel_rfl
theorem zero9 : zeroOf Tryz.prog 9 = some [.string ByteArray.empty] := by kernel_rfl
theorem elk5 : elOk Tryz.prog 5 1 1 = true := by kernel_rfl
theorem elk22 : elOk Tryz.prog 22 1 24 = true := by kernel_rfl
theorem cv297_9 : b2sOk Tryz.prog 297 9 = true := by kernel_rfl
theorem arr304 : arrOk Tryz.prog 304 = true := by kernel_rfl
theorem mok296 : mapOk Tryz.prog 296 9 3 = true := by kernel_rfl
theorem mz296 : (Tryz.prog.info? 3).bind (·.zero) = some (ValT.vv (ValT.zero (ν := Int))) := by kernel_rfl
theorem okf117 : okFn Tryz.prog 117 = true := by kernel_rfl
theorem okf177 : okFn Tryz.prog 177 = true := by kernel_rfl
theorem okf179 : okFn Tryz.prog 179 = true := by kernel_rfl
theorem okf194 : okFn Tryz.prog 194 = true := by kernel_rfl
theorem okf195 : okFn Tryz.prog 195 = true := by kernel_rfl
theorem okf205 : okFn Tryz.prog 205 = true := by kernel_rfl
theorem okf208 : okFn Tryz.prog 208 = true := by kernel_rfl
theorem okf197 : okFn Tryz.prog 197 = true := by kernel_rfl
theorem okf198 : okFn Tryz.prog 198 = true := by kernel_rfl
theorem okf199 : okFn Tryz.prog 199 = true := by kernel_rfl
theorem okf200 : okFn Tryz.prog 200 = true := by kernel_rfl
theorem okf201 : okFn Tryz.prog 201 = true := by kernel_rfl
theorem okf202 : okFn Tryz.prog 202 = true := by kernel_rfl
theorem okf203 : okFn Tryz.prog 203 = true := by kernel_rfl
theorem zero266 : zeroOf Tryz.prog 266 = some [.int .i64 0, .int .i64 0, .int .i64 0, .int .i64 0] := by kernel_rfl
theorem okf173 : okFn Tryz.prog 173 = true := by kernel_rfl
theorem okf175 : okFn Tryz.prog 175 = true := by kernel_rfl
theorem okf176 : okFn Tryz.prog 176 = true := by kernel_rfl
theorem zero118 : zeroOf Tryz.prog 118 = some [.bool false, .bool false, .bool false, .bool false, .bool false] := by kernel_rfl
theorem okf116 : okFn Tryz.prog 116 = true := by kernel_rfl
theorem zero24 : zeroOf Tryz.prog 24 = some [.slice none 0 0] := by kernel_rfl
theorem zero132 : zeroOf Tryz.prog 132 = some [.int .i64 0, .int .i64 0, .map none, .slice none 0 0, .nilFunc, .nilFunc, .nilFunc] := by kernel_rfl
theorem zero217 : zeroOf Tryz.prog 217 = some [.int .i64 0, .int .i64 0, .map none, .slice none 0 0, .nilFunc, .nilFunc, .nilFunc] := by kernel_rfl
theorem okf9 : okFn Tryz.prog 9 = true := by kernel_rfl
theorem okf10 : okFn Tryz.prog 10 = true := by kernel_rfl
theorem okf11 : okFn Tryz.prog 11 = true := by kernel_rfl
theorem okf12 : okFn Tryz.prog 12 = true := by kernel_rfl
theorem okf29 : okFn Tryz.prog 29 = true := by kernel_rfl
theorem okf31 : okFn Tryz.prog 31 = true := by kernel_rfl
theorem okf32 : okFn Tryz.prog 32 = true := by kernel_rfl
theorem okf33 : okFn Tryz.prog 33 = true := by kernel_rfl
theorem okf65 : okFn Tryz.prog 65 = true := by kernel_rfl
theorem okf66 : okFn Tryz.prog 66 = true := by kernel_rfl
theorem okf67 : okFn Tryz.prog 67 = true := by kernel_rfl
theorem okf68 : okFn Tryz.prog 68 = true := by kernel_rfl
theorem okf69 : okFn Tryz.prog 69 = true := by kernel_rfl
theorem okf71 : okFn Tryz.prog 71 = true := by kernel_rfl
theorem okf72 : okFn Tryz.prog 72 = true := by kernel_rfl
theorem okf73 : okFn Tryz.prog 73 = true := by kernel_rfl
theorem okf74 : okFn Tryz.prog 74 = true := by kernel_rfl
theorem okf115 : okFn Tryz.prog 115 = true := by kernel_rfl
theorem okf121 : okFn Tryz.prog 121 = true := by kernel_rfl
theorem okf122 : okFn Tryz.prog 122 = true := by kernel_rfl
theorem okf126 : okFn Tryz.prog 126 = true := by kernel_rfl
theorem okf127 : okFn Tryz.prog 127 = true := by kernel_rfl
theorem okf128 : okFn Tryz.prog 128 = true := by kernel_rfl
theorem okf129 : okFn Tryz.prog 129 = true := by kernel_rfl
theorem okf130 : okFn Tryz.prog 130 = true := by kernel_rfl
end Go.Lg
set_option autoImplicit true
set_option linter.unusedVariables false
set_option maxRecDepth 100000
namespace Go.Lg
open Go Go.Proofs
theorem okf123 : okFn Tryz.prog 123 = true := by kernel_rfl
theorem c123 {G : Store} {S : List Seg} {w : World} {v0 : Value} {d0 : List Int} (hI : Inv w G S) {r : List Int} (h0 : RepV G v0 d0) (hp : sl_Cloneint_int_ d0 = some r) :
    Calls Tryz.prog 123 #[v0] w (RV (Rt G S r)) := by
  refine enter (n := 8) (fun s => s 2) [_] Tryz.func123 rfl rfl rfl (res1 rfl) fun j => ?_
  refine wpC_seq ?_
  refine wpC_region [false] rfl ?_
  refine o_p 1 rfl ?_
  refine o_nil ?_
  refine nx ?_
  refine wpC_seq ?_
  refine wpC_seq ?_
  refine wpC_region [false, false] rfl ?_
  refine o_p 1 rfl ?_
  refine o_snil (RepV.slice h0) rfl rfl rfl rfl rfl rfl rfl (fun b hb => ?_) rfl
  refine o_nil ?_
  refine nx ?_
  refine wpC_cond rfl (fun hc => ?_) (fun hc => ?_)
  · obtain rfl := hb hc
    have hr : ([] : List Int) = r := by simpa [sl_Cloneint_int_, app] using hp
    subst hr
    refine wpC_seq ?_
    refine wpC_region [false] rfl ?_
    refine o_p 1 rfl ?_
    refine o_nil ?_
    refine nx ?_
    refine wpC_ret ?_
    refine pr ?_
    exact Rt.mk (Le.refl _) hI ((SliceAt.nil _).repV)
  · refine wpC_skip ?_
    refine nx ?_
    refine wpC_seq ?_
    refine wpC_region [true, false, true, false] rfl ?_
    refine o_bs (l := ([] : List Int)) (vs := []) hI trivial rfl rfl rfl trivial rfl elk3 rfl rfl rfl fun b1 cp2 c3 w5 k4 hI6 => ⟨nofun, ?_⟩
    refine o_p 1 rfl ?_
    refine o_app hI6 0 rfl k4 (Lies.ofSlice (RepV.slice h0)) hp rfl rfl rfl rfl rfl rfl elk3 rfl rfl rfl rfl fun v9 s10 w11 k12 hI13 => ⟨nofun, ?_⟩
    refine o_p 1 rfl ?_
    refine o_nil ?_
    refine nx ?_
    refine wpC_ret ?_
    obtain ⟨G14, g15, hI16, k17⟩ := Inv.frz hI13 0 rfl k12
    exact Rt.mk g15 hI16 k17
end Go.Lg
