/- HeapPlays: a cell of the heap held against the model. No condition. -/
import Derived.Test.YtlfkmignkilplaaHu
import Derived.Test.YtlfkmignkilplaaHs
namespace Go.Proofs.Ytlfkmignkilplaa.PHeapPlays
open Go.RowKit Go.Proofs.YtlfkmignkilplaaW.PrintWords Go.Proofs.YtlfkmignkilplaaW.PrintLast Go.Proofs.YtlfkmignkilplaaW.PrintMore
set_option linter.unusedVariables false
set_option linter.unusedSimpArgs false

set_option maxRecDepth 1000000 in
/-- At the head of the last loop. -/
def PT (w : World) (l : List S34) (A : Option Addr) (c hb : Nat) (v : Value) (xs : List S67) (k : Nat) (a : Act) (w' : World) : Prop := ∃ (u : Nat → Value) (N : Nat), St w w' N hb v xs xs ∧ a = ⟨#[.slice A l.length c, undef, u 2, .pointer (some ⟨hb, 0, none⟩), v, .int .i64 ((tot xs : Nat) : Int), undef, u 7, undef, u 9, u 10, u 11, u 12, u 13, undef, u 15, u 16, u 17, u 18, u 19, u 20, u 21, u 22, u 23, u 24, u 25, u 26, u 27, u 28, u 29, u 30, u 31, u 32, .bool true, .bool false, .slice A l.length c, .int .i64 (l.length : Int), .bool false, .slice A l.length c, .int .i64 (l.length : Int), u 40, u 41, u 42, u 43, u 44, u 45, u 46, u 47, u 48, u 49, u 50, u 51, u 52, u 53, u 54, u 55, u 56, u 57, u 58, u 59, u 60, u 61, u 62, u 63, u 64, u 65, u 66, u 67, u 68, u 69, u 70, u 71, u 72, u 73, u 74, u 75, u 76, u 77, u 78, u 79, u 80, u 81, u 82, u 83, u 84, u 85, u 86, u 87, u 88, u 89, u 90, u 91, u 92, u 93, u 94, u 95, u 96, u 97, u 98, u 99, u 100, u 101, u 102, u 103, u 104, u 105, u 106, u 107, u 108, u 109, u 110, u 111, u 112, u 113, u 114, u 115, u 116, u 117, u 118, u 119, u 120, u 121, u 122, u 123, u 124, u 125, u 126, u 127, u 128, u 129, u 130, u 131, u 132, u 133, u 134, u 135, u 136, u 137, u 138, u 139, u 140, u 141, u 142, u 143, u 144, u 145, u 146, u 147, u 148, u 149, u 150, u 151, u 152, u 153, u 154, u 155, u 156, u 157, u 158, u 159, u 160, u 161, u 162, u 163, u 164, u 165, u 166, u 167, u 168, u 169, u 170, u 171, u 172, u 173, u 174, u 175, u 176, u 177, u 178, u 179, u 180, u 181, u 182, u 183, u 184, u 185, u 186, u 187, u 188, u 189, u 190, u 191, u 192, u 193, u 194, u 195, u 196, u 197, u 198, u 199, u 200, u 201, u 202, u 203, u 204, u 205, u 206, u 207, u 208, u 209, u 210, u 211, u 212, u 213, u 214, u 215, u 216, u 217, u 218, u 219, u 220, u 221, u 222, u 223, u 224, u 225, u 226, u 227, u 228, u 229, u 230, u 231, u 232, u 233, u 234, u 235, u 236, u 237, u 238, u 239, u 240, u 241, u 242, u 243, u 244, u 245, u 246, u 247, u 248, u 249, u 250, u 251, u 252, u 253, u 254, u 255, u 256, u 257, u 258, u 259, u 260, u 261, u 262, u 263, u 264, u 265, u 266, u 267, u 268, u 269, u 270, u 271, u 272, u 273, u 274, u 275, u 276, u 277, u 278, u 279, u 280, u 281, u 282, u 283, u 284, u 285, u 286, u 287, u 288, u 289, u 290, u 291, u 292, u 293, u 294, u 295, u 296, u 297, u 298, u 299, u 300, u 301, u 302, u 303, u 304, u 305, u 306, u 307, u 308, u 309, u 310, u 311, u 312, u 313, u 314, u 315, u 316, u 317, u 318, u 319, u 320, u 321, u 322, u 323, u 324, u 325, u 326, u 327, u 328, u 329, u 330, u 331, u 332, u 333, u 334, u 335, u 336, u 337, u 338, u 339, u 340, v, .int .i64 (xs.length : Int), .int .i64 (k : Int), u 344, u 345, u 346, u 347, u 348, u 349, u 350, u 351, u 352, u 353, u 354, u 355, u 356, u 357, u 358, u 359, u 360, u 361, u 362, u 363, u 364, u 365, u 366, u 367, u 368, u 369, u 370, u 371, u 372, u 373, u 374, u 375, u 376, u 377, u 378, u 379, u 380, u 381, u 382, u 383, u 384, u 385, u 386, u 387, u 388, u 389, u 390, u 391, u 392, u 393, u 394, u 395, u 396, u 397, u 398, u 399, u 400, u 401, u 402, u 403, u 404, u 405, u 406, u 407, u 408, u 409, u 410, u 411, u 412, u 413, u 414, u 415, u 416, u 417], []⟩
set_option maxRecDepth 1000000 in
theorem PT_mk {w : World} {l : List S34} {A : Option Addr} {c hb k : Nat} {ts : Array Value} {w' : World} {v : Value} {xs : List S67} (N : Nat) (hS : St w w' N hb v xs xs) (h : (⟨ts, []⟩ : Act) = ⟨#[.slice A l.length c, undef, ts.getD 2 undef, .pointer (some ⟨hb, 0, none⟩), v, .int .i64 ((tot xs : Nat) : Int), undef, ts.getD 7 undef, undef, ts.getD 9 undef, ts.getD 10 undef, ts.getD 11 undef, ts.getD 12 undef, ts.getD 13 undef, undef, ts.getD 15 undef, ts.getD 16 undef, ts.getD 17 undef, ts.getD 18 undef, ts.getD 19 undef, ts.getD 20 undef, ts.getD 21 undef, ts.getD 22 undef, ts.getD 23 undef, ts.getD 24 undef, ts.getD 25 undef, ts.getD 26 undef, ts.getD 27 undef, ts.getD 28 undef, ts.getD 29 undef, ts.getD 30 undef, ts.getD 31 undef, ts.getD 32 undef, .bool true, .bool false, .slice A l.length c, .int .i64 (l.length : Int), .bool false, .slice A l.length c, .int .i64 (l.length : Int), ts.getD 40 undef, ts.getD 41 undef, ts.getD 42 undef, ts.getD 43 undef, ts.getD 44 undef, ts.getD 45 undef, ts.getD 46 undef, ts.getD 47 undef, ts.getD 48 undef, ts.getD 49 undef, ts.getD 50 undef, ts.getD 51 undef, ts.getD 52 undef, ts.getD 53 undef, ts.getD 54 undef, ts.getD 55 undef, ts.getD 56 undef, ts.getD 57 undef, ts.getD 58 undef, ts.getD 59 undef, ts.getD 60 undef, ts.getD 61 undef, ts.getD 62 undef, ts.getD 63 undef, ts.getD 64 undef, ts.getD 65 undef, ts.getD 66 undef, ts.getD 67 undef, ts.getD 68 undef, ts.getD 69 undef, ts.getD 70 undef, ts.getD 71 undef, ts.getD 72 undef, ts.getD 73 undef, ts.getD 74 undef, ts.getD 75 undef, ts.getD 76 undef, ts.getD 77 undef, ts.getD 78 undef, ts.getD 79 undef, ts.getD 80 undef, ts.getD 81 undef, ts.getD 82 undef, ts.getD 83 undef, ts.getD 84 undef, ts.getD 85 undef, ts.getD 86 undef, ts.getD 87 undef, ts.getD 88 undef, ts.getD 89 undef, ts.getD 90 undef, ts.getD 91 undef, ts.getD 92 undef, ts.getD 93 undef, ts.getD 94 undef, ts.getD 95 undef, ts.getD 96 undef, ts.getD 97 undef, ts.getD 98 undef, ts.getD 99 undef, ts.getD 100 undef, ts.getD 101 undef, ts.getD 102 undef, ts.getD 103 undef, ts.getD 104 undef, ts.getD 105 undef, ts.getD 106 undef, ts.getD 107 undef, ts.getD 108 undef, ts.getD 109 undef, ts.getD 110 undef, ts.getD 111 undef, ts.getD 112 undef, ts.getD 113 undef, ts.getD 114 undef, ts.getD 115 undef, ts.getD 116 undef, ts.getD 117 undef, ts.getD 118 undef, ts.getD 119 undef, ts.getD 120 undef, ts.getD 121 undef, ts.getD 122 undef, ts.getD 123 undef, ts.getD 124 undef, ts.getD 125 undef, ts.getD 126 undef, ts.getD 127 undef, ts.getD 128 undef, ts.getD 129 undef, ts.getD 130 undef, ts.getD 131 undef, ts.getD 132 undef, ts.getD 133 undef, ts.getD 134 undef, ts.getD 135 undef, ts.getD 136 undef, ts.getD 137 undef, ts.getD 138 undef, ts.getD 139 undef, ts.getD 140 undef, ts.getD 141 undef, ts.getD 142 undef, ts.getD 143 undef, ts.getD 144 undef, ts.getD 145 undef, ts.getD 146 undef, ts.getD 147 undef, ts.getD 148 undef, ts.getD 149 undef, ts.getD 150 undef, ts.getD 151 undef, ts.getD 152 undef, ts.getD 153 undef, ts.getD 154 undef, ts.getD 155 undef, ts.getD 156 undef, ts.getD 157 undef, ts.getD 158 undef, ts.getD 159 undef, ts.getD 160 undef, ts.getD 161 undef, ts.getD 162 undef, ts.getD 163 undef, ts.getD 164 undef, ts.getD 165 undef, ts.getD 166 undef, ts.getD 167 undef, ts.getD 168 undef, ts.getD 169 undef, ts.getD 170 undef, ts.getD 171 undef, ts.getD 172 undef, ts.getD 173 undef, ts.getD 174 undef, ts.getD 175 undef, ts.getD 176 undef, ts.getD 177 undef, ts.getD 178 undef, ts.getD 179 undef, ts.getD 180 undef, ts.getD 181 undef, ts.getD 182 undef, ts.getD 183 undef, ts.getD 184 undef, ts.getD 185 undef, ts.getD 186 undef, ts.getD 187 undef, ts.getD 188 undef, ts.getD 189 undef, ts.getD 190 undef, ts.getD 191 undef, ts.getD 192 undef, ts.getD 193 undef, ts.getD 194 undef, ts.getD 195 undef, ts.getD 196 undef, ts.getD 197 undef, ts.getD 198 undef, ts.getD 199 undef, ts.getD 200 undef, ts.getD 201 undef, ts.getD 202 undef, ts.getD 203 undef, ts.getD 204 undef, ts.getD 205 undef, ts.getD 206 undef, ts.getD 207 undef, ts.getD 208 undef, ts.getD 209 undef, ts.getD 210 undef, ts.getD 211 undef, ts.getD 212 undef, ts.getD 213 undef, ts.getD 214 undef, ts.getD 215 undef, ts.getD 216 undef, ts.getD 217 undef, ts.getD 218 undef, ts.getD 219 undef, ts.getD 220 undef, ts.getD 221 undef, ts.getD 222 undef, ts.getD 223 undef, ts.getD 224 undef, ts.getD 225 undef, ts.getD 226 undef, ts.getD 227 undef, ts.getD 228 undef, ts.getD 229 undef, ts.getD 230 undef, ts.getD 231 undef, ts.getD 232 undef, ts.getD 233 undef, ts.getD 234 undef, ts.getD 235 undef, ts.getD 236 undef, ts.getD 237 undef, ts.getD 238 undef, ts.getD 239 undef, ts.getD 240 undef, ts.getD 241 undef, ts.getD 242 undef, ts.getD 243 undef, ts.getD 244 undef, ts.getD 245 undef, ts.getD 246 undef, ts.getD 247 undef, ts.getD 248 undef, ts.getD 249 undef, ts.getD 250 undef, ts.getD 251 undef, ts.getD 252 undef, ts.getD 253 undef, ts.getD 254 undef, ts.getD 255 undef, ts.getD 256 undef, ts.getD 257 undef, ts.getD 258 undef, ts.getD 259 undef, ts.getD 260 undef, ts.getD 261 undef, ts.getD 262 undef, ts.getD 263 undef, ts.getD 264 undef, ts.getD 265 undef, ts.getD 266 undef, ts.getD 267 undef, ts.getD 268 undef, ts.getD 269 undef, ts.getD 270 undef, ts.getD 271 undef, ts.getD 272 undef, ts.getD 273 undef, ts.getD 274 undef, ts.getD 275 undef, ts.getD 276 undef, ts.getD 277 undef, ts.getD 278 undef, ts.getD 279 undef, ts.getD 280 undef, ts.getD 281 undef, ts.getD 282 undef, ts.getD 283 undef, ts.getD 284 undef, ts.getD 285 undef, ts.getD 286 undef, ts.getD 287 undef, ts.getD 288 undef, ts.getD 289 undef, ts.getD 290 undef, ts.getD 291 undef, ts.getD 292 undef, ts.getD 293 undef, ts.getD 294 undef, ts.getD 295 undef, ts.getD 296 undef, ts.getD 297 undef, ts.getD 298 undef, ts.getD 299 undef, ts.getD 300 undef, ts.getD 301 undef, ts.getD 302 undef, ts.getD 303 undef, ts.getD 304 undef, ts.getD 305 undef, ts.getD 306 undef, ts.getD 307 undef, ts.getD 308 undef, ts.getD 309 undef, ts.getD 310 undef, ts.getD 311 undef, ts.getD 312 undef, ts.getD 313 undef, ts.getD 314 undef, ts.getD 315 undef, ts.getD 316 undef, ts.getD 317 undef, ts.getD 318 undef, ts.getD 319 undef, ts.getD 320 undef, ts.getD 321 undef, ts.getD 322 undef, ts.getD 323 undef, ts.getD 324 undef, ts.getD 325 undef, ts.getD 326 undef, ts.getD 327 undef, ts.getD 328 undef, ts.getD 329 undef, ts.getD 330 undef, ts.getD 331 undef, ts.getD 332 undef, ts.getD 333 undef, ts.getD 334 undef, ts.getD 335 undef, ts.getD 336 undef, ts.getD 337 undef, ts.getD 338 undef, ts.getD 339 undef, ts.getD 340 undef, v, .int .i64 (xs.length : Int), .int .i64 (k : Int), ts.getD 344 undef, ts.getD 345 undef, ts.getD 346 undef, ts.getD 347 undef, ts.getD 348 undef, ts.getD 349 undef, ts.getD 350 undef, ts.getD 351 undef, ts.getD 352 undef, ts.getD 353 undef, ts.getD 354 undef, ts.getD 355 undef, ts.getD 356 undef, ts.getD 357 undef, ts.getD 358 undef, ts.getD 359 undef, ts.getD 360 undef, ts.getD 361 undef, ts.getD 362 undef, ts.getD 363 undef, ts.getD 364 undef, ts.getD 365 undef, ts.getD 366 undef, ts.getD 367 undef, ts.getD 368 undef, ts.getD 369 undef, ts.getD 370 undef, ts.getD 371 undef, ts.getD 372 undef, ts.getD 373 undef, ts.getD 374 undef, ts.getD 375 undef, ts.getD 376 undef, ts.getD 377 undef, ts.getD 378 undef, ts.getD 379 undef, ts.getD 380 undef, ts.getD 381 undef, ts.getD 382 undef, ts.getD 383 undef, ts.getD 384 undef, ts.getD 385 undef, ts.getD 386 undef, ts.getD 387 undef, ts.getD 388 undef, ts.getD 389 undef, ts.getD 390 undef, ts.getD 391 undef, ts.getD 392 undef, ts.getD 393 undef, ts.getD 394 undef, ts.getD 395 undef, ts.getD 396 undef, ts.getD 397 undef, ts.getD 398 undef, ts.getD 399 undef, ts.getD 400 undef, ts.getD 401 undef, ts.getD 402 undef, ts.getD 403 undef, ts.getD 404 undef, ts.getD 405 undef, ts.getD 406 undef, ts.getD 407 undef, ts.getD 408 undef, ts.getD 409 undef, ts.getD 410 undef, ts.getD 411 undef, ts.getD 412 undef, ts.getD 413 undef, ts.getD 414 undef, ts.getD 415 undef, ts.getD 416 undef, ts.getD 417 undef], []⟩) : PT w l A c hb v xs k ⟨ts, []⟩ w' := ⟨fun k => ts.getD k undef, N, hS, h⟩
noncomputable def L5 : Code := match (Try.f3.body.bind (inBlk 11)) with
  | some (.loop c) => c
  | _ => .skip
attribute [local go_sem high] eqA32 eqA30
set_option maxRecDepth 1000000 in
set_option maxHeartbeats 8000000 in
theorem L5_round (w wq : World) (l : List S34) (A : Option Addr) (c hb N : Nat) (v : Value) (xs : List S67) (k : Nat) (u : Nat → Value) (Q : Exit → Act → World → Prop)
    (hK : ∀ a w', k < xs.length → PT w l A c hb v xs (k + 1) a w' → Q .normal a w') (hX : ∀ a w', PT w l A c hb v xs xs.length a w' → Q (.exit 11) a w') (hP : ∀ c a N v w', Q (.panic c) (Act.put a N v) w' → Q (.panic c) a w')
    (hS : St w wq N hb v xs xs) (hw : WF xs) (hk : k ≤ xs.length) (hb1 : xs.length ≤ 40) (ht : tot xs ≤ 65536) :
    Code.wp Try.prog L5 Q ⟨#[.slice A l.length c, undef, u 2, .pointer (some ⟨hb, 0, none⟩), v, .int .i64 ((tot xs : Nat) : Int), undef, u 7, undef, u 9, u 10, u 11, u 12, u 13, undef, u 15, u 16, u 17, u 18, u 19, u 20, u 21, u 22, u 23, u 24, u 25, u 26, u 27, u 28, u 29, u 30, u 31, u 32, .bool true, .bool false, .slice A l.length c, .int .i64 (l.length : Int), .bool false, .slice A l.length c, .int .i64 (l.length : Int), u 40, u 41, u 42, u 43, u 44, u 45, u 46, u 47, u 48, u 49, u 50, u 51, u 52, u 53, u 54, u 55, u 56, u 57, u 58, u 59, u 60, u 61, u 62, u 63, u 64, u 65, u 66, u 67, u 68, u 69, u 70, u 71, u 72, u 73, u 74, u 75, u 76, u 77, u 78, u 79, u 80, u 81, u 82, u 83, u 84, u 85, u 86, u 87, u 88, u 89, u 90, u 91, u 92, u 93, u 94, u 95, u 96, u 97, u 98, u 99, u 100, u 101, u 102, u 103, u 104, u 105, u 106, u 107, u 108, u 109, u 110, u 111, u 112, u 113, u 114, u 115, u 116, u 117, u 118, u 119, u 120, u 121, u 122, u 123, u 124, u 125, u 126, u 127, u 128, u 129, u 130, u 131, u 132, u 133, u 134, u 135, u 136, u 137, u 138, u 139, u 140, u 141, u 142, u 143, u 144, u 145, u 146, u 147, u 148, u 149, u 150, u 151, u 152, u 153, u 154, u 155, u 156, u 157, u 158, u 159, u 160, u 161, u 162, u 163, u 164, u 165, u 166, u 167, u 168, u 169, u 170, u 171, u 172, u 173, u 174, u 175, u 176, u 177, u 178, u 179, u 180, u 181, u 182, u 183, u 184, u 185, u 186, u 187, u 188, u 189, u 190, u 191, u 192, u 193, u 194, u 195, u 196, u 197, u 198, u 199, u 200, u 201, u 202, u 203, u 204, u 205, u 206, u 207, u 208, u 209, u 210, u 211, u 212, u 213, u 214, u 215, u 216, u 217, u 218, u 219, u 220, u 221, u 222, u 223, u 224, u 225, u 226, u 227, u 228, u 229, u 230, u 231, u 232, u 233, u 234, u 235, u 236, u 237, u 238, u 239, u 240, u 241, u 242, u 243, u 244, u 245, u 246, u 247, u 248, u 249, u 250, u 251, u 252, u 253, u 254, u 255, u 256, u 257, u 258, u 259, u 260, u 261, u 262, u 263, u 264, u 265, u 266, u 267, u 268, u 269, u 270, u 271, u 272, u 273, u 274, u 275, u 276, u 277, u 278, u 279, u 280, u 281, u 282, u 283, u 284, u 285, u 286, u 287, u 288, u 289, u 290, u 291, u 292, u 293, u 294, u 295, u 296, u 297, u 298, u 299, u 300, u 301, u 302, u 303, u 304, u 305, u 306, u 307, u 308, u 309, u 310, u 311, u 312, u 313, u 314, u 315, u 316, u 317, u 318, u 319, u 320, u 321, u 322, u 323, u 324, u 325, u 326, u 327, u 328, u 329, u 330, u 331, u 332, u 333, u 334, u 335, u 336, u 337, u 338, u 339, u 340, v, .int .i64 (xs.length : Int), .int .i64 (k : Int), u 344, u 345, u 346, u 347, u 348, u 349, u 350, u 351, u 352, u 353, u 354, u 355, u 356, u 357, u 358, u 359, u 360, u 361, u 362, u 363, u 364, u 365, u 366, u 367, u 368, u 369, u 370, u 371, u 372, u 373, u 374, u 375, u 376, u 377, u 378, u 379, u 380, u 381, u 382, u 383, u 384, u 385, u 386, u 387, u 388, u 389, u 390, u 391, u 392, u 393, u 394, u 395, u 396, u 397, u 398, u 399, u 400, u 401, u 402, u 403, u 404, u 405, u 406, u 407, u 408, u 409, u 410, u 411, u 412, u 413, u 414, u 415, u 416, u 417], []⟩ wq := by
  have eB : L5 = putBlk 13 (.loop L6) L5 := by kernel_rfl
  rw [eB]
  clear eB
  conv => arg 2; arg 3; whnf
  simp only [putBlk, reduceIte, Nat.reduceEqDiff, ↓reduceIte]
  have hu30 := Try.underlying30
  have hu32 := Try.underlying32
  have hu40 := Try.underlying40
  by_cases h : k < xs.length
  · have b1 : decide ((k : Int) < (xs.length : Int)) = true := decide_eq_true (by omega)
    have b2 : decide (k < xs.length) = true := decide_eq_true h
    have b3 : 0 ≤ (k : Int) := by omega
    have b4 : (k : Int) < (xs.length : Int) := by omega
    have b5 : (k : Int) ≤ 40 := by omega
    have hTH : there ⟨5, (k : Int), ⟨#[]⟩⟩ xs.length = true := by unfold there; simp; omega
    have HLN := Aside0.mk (show (if there (⟨5, (k : Int), ⟨#[]⟩⟩ : S32) xs.length then (((rd_T67 xs (k : Int)).f3.length : Nat) : Int) else -1) = (((rd_T67 xs (k : Int)).f3.length : Nat) : Int) by rw [hTH]; rfl)
    have hWF := hw _ (rd_T67_mem b3 b4)
    have HCS := Aside0.mk (show (if there (⟨5, (k : Int), ⟨#[]⟩⟩ : S32) xs.length && !(rd_T67 xs (k : Int)).f2 then ((rd_T67 xs (k : Int)).f0, true) else (⟨#[]⟩, false)) = ((rd_T67 xs (k : Int)).f0, !(rd_T67 xs (k : Int)).f2) by
      rw [hTH]
      cases hf : (rd_T67 xs (k : Int)).f2 with
      | true => rw [hWF.1 hf]; rfl
      | false => rfl)
    have HEL := Aside0.mk (show (if there (⟨5, (k : Int), ⟨#[]⟩⟩ : S32) xs.length && (rd_T67 xs (k : Int)).f2 then ((rd_T67 xs (k : Int)).f1, true) else (z30, false)) = ((rd_T67 xs (k : Int)).f1, (rd_T67 xs (k : Int)).f2) by
      rw [hTH]
      cases hf : (rd_T67 xs (k : Int)).f2 with
      | true => rfl
      | false => rw [hWF.2 hf]; rfl)
    have HLD := Aside0.mk (show ∀ i : Nat, i < (rd_T67 xs (k : Int)).f3.length → loadL xs (⟨5, (k : Int), ⟨#[]⟩⟩ : S32) (i : Int) = (rd_T32 (rd_T67 xs (k : Int)).f3 (i : Int), 0) from fun i hi => by unfold loadL; rw [hTH, if_pos rfl]; exact if_pos ⟨by omega, by show (i : Int) < ((rd_T67 xs (k : Int)).f3.length : Int); omega⟩)
    obtain ⟨b, cc, A6, c6, rfl, hlc, x0, x1, x2, x3, x4, x5, x6, hl6, hC6⟩ := hS.cells (k : Int) b3 b4
    have hle : (rd_T67 xs (k : Int)).f3.length ≤ tot xs := le_tot (rd_T67_mem b3 b4)
    obtain ⟨y, hy⟩ : ∃ y, y = rd_T67 xs (k : Int) := ⟨_, rfl⟩
    rw [← hy] at x0 x1 x2 x3 x4 x5 x6 hl6 hC6 HLN HCS HEL HLD hle
    simp only [Int.toNat_natCast] at x0 x1 x2 x3 x4 x5 x6
    have HLE := Aside0.mk (show y.f3.length ≤ 65536 by omega)
    have HC := Aside0.mk (And.intro hl6 hC6)
    have HYY := Aside0.mk hy
    have HS := Aside0.mk hS
    have HW := Aside0.mk hw
    have HF := Aside0.mk (And.intro h (And.intro hb1 ht))
    clear hS hw hl6 hC6 hy hWF hTH hle h hb1 ht hk
    have HSa := Aside0.mk (show ∀ o, St w (wq.alloc o) N hb _ xs xs from fun o => HS.out.alloc o)
    go_wp2_with (first
      | (go_at_call 8; (with_reducible refine (at_any _ _).mono ?_); rintro e w6 ⟨rfl, hb6⟩; have HB6 := Aside0.mk (below_then (below_alloc (Below.refl wq.heap.size wq) (.cells #[.string y.f0, .int .i64 y.f1.f0, .string y.f1.f1, .int .i64 y.f1.f2, .string y.f1.f3, .bool y.f2, .slice A6 y.f3.length c6] 40)) (by simp) hb6); have HS6 := Aside0.mk ((HSa.out _).below hb6); have HY6 := Aside0.mk (blk_below (blk_new wq (.cells #[.string y.f0, .int .i64 y.f1.f0, .string y.f1.f1, .int .i64 y.f1.f2, .string y.f1.f3, .bool y.f2, .slice A6 y.f3.length c6] 40)) hb6); clear hb6; clear x0 x1 x2 x3 x4 x5 x6)
      | (go_at_call 14; (refine (St.classOf (HS6.out.alloc _) ⟨5, (k : Int), ⟨#[]⟩⟩ y _ _ HYY.out HCS.out).mono ?_; rintro e w7 ⟨rfl, hs, hb7⟩; have HS7 := Aside0.mk hs; have HT7 := Aside0.mk (blk_below (blk_new w6 (.cells #[.int .i64 5, .int .i64 (k : Int), .string ⟨#[]⟩] 32)) hb7); have HY7 := Aside0.mk (blk_below (blk_alloc HY6.out (.cells #[.int .i64 5, .int .i64 (k : Int), .string ⟨#[]⟩] 32)) hb7); have HB7 := Aside0.mk (HB6.out.trans (((below_alloc (Below.refl w6.heap.size w6) (.cells #[.int .i64 5, .int .i64 (k : Int), .string ⟨#[]⟩] 32)).trans (hb7.mono (by simp))).mono HB6.out.size)); clear hs hb7; obtain ⟨q0, q1, q2⟩ : w7.cell? ⟨w6.heap.size, 0, none⟩ = some (.int .i64 5) ∧ w7.cell? ⟨w6.heap.size, 1, none⟩ = some (.int .i64 (k : Int)) ∧ w7.cell? ⟨w6.heap.size, 2, none⟩ = some (.string ⟨#[]⟩) := ⟨(blk_cell HT7.out 0).trans rfl, (blk_cell HT7.out 1).trans rfl, (blk_cell HT7.out 2).trans rfl⟩))
      | (go_at_call 15; refine (HS7.out.elemOf ⟨5, (k : Int), ⟨#[]⟩⟩ y _ _ HYY.out HEL.out).mono ?_; rintro e w8 ⟨rfl, hs, hb8⟩; have HS8 := Aside0.mk hs; have HT8 := Aside0.mk (blk_below HT7.out hb8); have HY8 := Aside0.mk (blk_below HY7.out hb8); have HB8 := Aside0.mk (HB7.out.trans (hb8.mono HB7.out.size)); clear hs hb8; clear q0 q1 q2))
    obtain ⟨w9, hw9⟩ : ∃ w9 : World, w9 = (w8.alloc (.cells #[.int .i64 y.f1.f0, .string y.f1.f1, .int .i64 y.f1.f2, .string y.f1.f3] 30)).drew := ⟨_, rfl⟩
    have HS9 := Aside0.mk (show St w w9 N hb _ xs xs by rw [hw9]; exact (HS8.out.alloc _).drew)
    have HT9 := Aside0.mk ((congrArg (fun W : World => W.heap[w6.heap.size]?) hw9).trans (blk_alloc HT8.out (.cells #[.int .i64 y.f1.f0, .string y.f1.f1, .int .i64 y.f1.f2, .string y.f1.f3] 30)))
    have HY9 := Aside0.mk ((congrArg (fun W : World => W.heap[wq.heap.size]?) hw9).trans (blk_alloc HY8.out (.cells #[.int .i64 y.f1.f0, .string y.f1.f1, .int .i64 y.f1.f2, .string y.f1.f3] 30)))
    have HE9 := Aside0.mk ((congrArg (fun W : World => W.heap[w8.heap.size]?) hw9).trans (blk_new w8 (.cells #[.int .i64 y.f1.f0, .string y.f1.f1, .int .i64 y.f1.f2, .string y.f1.f3] 30)))
    have HB9 := Aside0.mk (show Below wq.heap.size wq w9 by rw [hw9]; exact below_drew1 (below_alloc HB8.out _))
    clear HSa HS6 HS7 HS8 HT7 HT8 HY6 HY7 HY8 HB6 HB7 HB8
    refine start_ (n := 30) (S := fun w' => w'.cell? ⟨w6.heap.size, 0, none⟩ = some (.int .i64 5) ∧ w'.cell? ⟨w6.heap.size, 1, none⟩ = some (.int .i64 (k : Int)) ∧ w'.cell? ⟨w6.heap.size, 2, none⟩ = some (.string ⟨#[]⟩) ∧ w'.cell? ⟨wq.heap.size, 0, none⟩ = some (.string y.f0) ∧ w'.cell? ⟨wq.heap.size, 1, none⟩ = some (.int .i64 y.f1.f0) ∧ w'.cell? ⟨wq.heap.size, 2, none⟩ = some (.string y.f1.f1) ∧ w'.cell? ⟨wq.heap.size, 3, none⟩ = some (.int .i64 y.f1.f2) ∧ w'.cell? ⟨wq.heap.size, 4, none⟩ = some (.string y.f1.f3) ∧ w'.cell? ⟨wq.heap.size, 5, none⟩ = some (.bool y.f2) ∧ w'.cell? ⟨wq.heap.size, 6, none⟩ = some (.slice A6 y.f3.length c6) ∧ w'.cell? ⟨w8.heap.size, 0, none⟩ = some (.int .i64 y.f1.f0) ∧ w'.cell? ⟨w8.heap.size, 1, none⟩ = some (.string y.f1.f1) ∧ w'.cell? ⟨w8.heap.size, 2, none⟩ = some (.int .i64 y.f1.f2) ∧ w'.cell? ⟨w8.heap.size, 3, none⟩ = some (.string y.f1.f3)) (ds := []) #[false, false, false, false, false, false, false, false, false, false, false, false, false, false, false, false, false, false, false, false, false, false, false, false, false, false, false, false, false, false] (by kernel_rfl) rfl rfl (by rw [← hw9]; exact ⟨(blk_cell HT9.out 0).trans rfl, (blk_cell HT9.out 1).trans rfl, (blk_cell HT9.out 2).trans rfl, (blk_cell HY9.out 0).trans rfl, (blk_cell HY9.out 1).trans rfl, (blk_cell HY9.out 2).trans rfl, (blk_cell HY9.out 3).trans rfl, (blk_cell HY9.out 4).trans rfl, (blk_cell HY9.out 5).trans rfl, (blk_cell HY9.out 6).trans rfl, (blk_cell HE9.out 0).trans rfl, (blk_cell HE9.out 1).trans rfl, (blk_cell HE9.out 2).trans rfl, (blk_cell HE9.out 3).trans rfl⟩) (fun hHeld => ?_)
    rw [← hw9] at hHeld ⊢; clear hw9
    refine take_ (i := 0) (N := some 360) (v := ?_) (a' := ?_) #[true, false, false, false, false, false, false, false, false, false, false, false, false, false, false, false, false, false, false, false, false, false, false, false, false, false, false, false, false, false] rfl rfl (by kernel_rfl) (fun _ _ _ h => hP _ _ _ _ _ h) (Or.inl ⟨by rfl, ?_⟩) hHeld ?_ ?_
    rotate_left
    · rintro w' ⟨s0, s1, s2, s3, s4, s5, s6, s7, s8, s9, s10, s11, s12, s13⟩
      go_simp
      with_reducible rfl
    rotate_left
    · simp only [Act.put, List.setIfInBounds_toArray, List.set_cons_zero, List.set_cons_succ, i64_w, i32_w]
      rfl
    refine pure_ (i := 2) (N := some 362) (v := ?_) (a' := ?_) #[true, false, true, false, false, false, false, false, false, false, false, false, false, false, false, false, false, false, false, false, false, false, false, false, false, false, false, false, false, false] rfl rfl (by kernel_rfl) (fun _ _ _ h => hP _ _ _ _ _ h) (Or.inl ⟨by rfl, ?_⟩) ?_ ?_
    rotate_left
    · intro w'
      go_simp
      with_reducible rfl
    rotate_left
    · simp only [Act.put, List.setIfInBounds_toArray, List.set_cons_zero, List.set_cons_succ, i64_w, i32_w]
      rfl
    refine take_ (i := 3) (N := some 363) (v := ?_) (a' := ?_) #[true, false, true, true, false, false, false, false, false, false, false, false, false, false, false, false, false, false, false, false, false, false, false, false, false, false, false, false, false, false] rfl rfl (by kernel_rfl) (fun _ _ _ h => hP _ _ _ _ _ h) (Or.inl ⟨by rfl, ?_⟩) hHeld ?_ ?_
    rotate_left
    · rintro w' ⟨s0, s1, s2, s3, s4, s5, s6, s7, s8, s9, s10, s11, s12, s13⟩
      go_simp
      with_reducible rfl
    rotate_left
    · simp only [Act.put, List.setIfInBounds_toArray, List.set_cons_zero, List.set_cons_succ, i64_w, i32_w]
      rfl
    refine pure_ (i := 4) (N := some 364) (v := ?_) (a' := ?_) #[true, false, true, true, true, false, false, false, false, false, false, false, false, false, false, false, false, false, false, false, false, false, false, false, false, false, false, false, false, false] rfl rfl (by kernel_rfl) (fun _ _ _ h => hP _ _ _ _ _ h) (Or.inl ⟨by rfl, ?_⟩) ?_ ?_
    rotate_left
    · intro w'
      go_simp
      with_reducible rfl
    rotate_left
    · simp only [Act.put, List.setIfInBounds_toArray, List.set_cons_zero, List.set_cons_succ, i64_w, i32_w]
      rfl
    refine one_ (i := 1) (N := some 361) #[true, true, true, true, true, false, false, false, false, false, false, false, false, false, false, false, false, false, false, false, false, false, false, false, false, false, false, false, false, false] rfl rfl (by kernel_rfl) (by decide) (fun K hK => ?_)
    refine goes_ (f := 16) Try.func16 (by kernel_rfl) rfl #[.pointer (some ⟨hb, 0, none⟩), .agg #[.int .i64 5, .int .i64 (k : Int), .string ⟨#[]⟩]] (by rfl) rfl rfl (by simp [Act.eval]) ?_
    refine (HS9.out.lenOf ⟨5, (k : Int), ⟨#[]⟩⟩ y _ HYY.out HLN.out).mono ?_
    rintro e w10 ⟨rfl, hs, hb10⟩
    refine ⟨_, rfl, ?_⟩
    have HS10 := Aside0.mk hs
    have HY10 := Aside0.mk (blk_below HY9.out hb10)
    have HT10 := Aside0.mk (blk_below HT9.out hb10)
    have HE10 := Aside0.mk (blk_below HE9.out hb10)
    have HB10 := Aside0.mk (HB9.out.trans (hb10.mono HB9.out.size))
    clear hs hb10
    refine hK.out _ _ ⟨(blk_cell HT10.out 0).trans rfl, (blk_cell HT10.out 1).trans rfl, (blk_cell HT10.out 2).trans rfl, (blk_cell HY10.out 0).trans rfl, (blk_cell HY10.out 1).trans rfl, (blk_cell HY10.out 2).trans rfl, (blk_cell HY10.out 3).trans rfl, (blk_cell HY10.out 4).trans rfl, (blk_cell HY10.out 5).trans rfl, (blk_cell HY10.out 6).trans rfl, (blk_cell HE10.out 0).trans rfl, (blk_cell HE10.out 1).trans rfl, (blk_cell HE10.out 2).trans rfl, (blk_cell HE10.out 3).trans rfl⟩ (fun hHeld => ?_)
    clear hK K
    refine pure_ (i := 5) (N := some 365) (v := ?_) (a' := ?_) #[true, true, true, true, true, true, false, false, false, false, false, false, false, false, false, false, false, false, false, false, false, false, false, false, false, false, false, false, false, false] rfl rfl (by kernel_rfl) (fun _ _ _ h => hP _ _ _ _ _ h) (Or.inl ⟨by rfl, ?_⟩) ?_ ?_
    rotate_left
    · intro w'
      go_simp
      with_reducible rfl
    rotate_left
    · simp only [Act.put, List.setIfInBounds_toArray, List.set_cons_zero, List.set_cons_succ, i64_w, i32_w]
      rfl
    refine pure_ (i := 6) (N := some 366) (v := ?_) (a' := ?_) #[true, true, true, true, true, true, true, false, false, false, false, false, false, false, false, false, false, false, false, false, false, false, false, false, false, false, false, false, false, false] rfl rfl (by kernel_rfl) (fun _ _ _ h => hP _ _ _ _ _ h) (Or.inl ⟨by rfl, ?_⟩) ?_ ?_
    rotate_left
    · intro w'
      go_simp
      with_reducible rfl
    rotate_left
    · simp only [Act.put, List.setIfInBounds_toArray, List.set_cons_zero, List.set_cons_succ, i64_w, i32_w]
      rfl
    refine pure_ (i := 7) (N := some 367) (v := ?_) (a' := ?_) #[true, true, true, true, true, true, true, true, false, false, false, false, false, false, false, false, false, false, false, false, false, false, false, false, false, false, false, false, false, false] rfl rfl (by kernel_rfl) (fun _ _ _ h => hP _ _ _ _ _ h) (Or.inl ⟨by rfl, ?_⟩) ?_ ?_
    rotate_left
    · intro w'
      go_simp
      with_reducible rfl
    rotate_left
    · simp only [Act.put, List.setIfInBounds_toArray, List.set_cons_zero, List.set_cons_succ, i64_w, i32_w]
      rfl
    refine pure_ (i := 8) (N := some 368) (v := ?_) (a' := ?_) #[true, true, true, true, true, true, true, true, true, false, false, false, false, false, false, false, false, false, false, false, false, false, false, false, false, false, false, false, false, false] rfl rfl (by kernel_rfl) (fun _ _ _ h => hP _ _ _ _ _ h) (Or.inl ⟨by rfl, ?_⟩) ?_ ?_
    rotate_left
    · intro w'
      go_simp
      with_reducible rfl
    rotate_left
    · simp only [Act.put, List.setIfInBounds_toArray, List.set_cons_zero, List.set_cons_succ, i64_w, i32_w]
      rfl
    refine take_ (i := 9) (N := some 369) (v := ?_) (a' := ?_) #[true, true, true, true, true, true, true, true, true, true, false, false, false, false, false, false, false, false, false, false, false, false, false, false, false, false, false, false, false, false] rfl rfl (by kernel_rfl) (fun _ _ _ h => hP _ _ _ _ _ h) (Or.inl ⟨by rfl, ?_⟩) hHeld ?_ ?_
    rotate_left
    · rintro w' ⟨s0, s1, s2, s3, s4, s5, s6, s7, s8, s9, s10, s11, s12, s13⟩
      go_simp
      with_reducible rfl
    rotate_left
    · simp only [Act.put, List.setIfInBounds_toArray, List.set_cons_zero, List.set_cons_succ, i64_w, i32_w]
      rfl
    refine pure_ (i := 10) (N := some 370) (v := ?_) (a' := ?_) #[true, true, true, true, true, true, true, true, true, true, true, false, false, false, false, false, false, false, false, false, false, false, false, false, false, false, false, false, false, false] rfl rfl (by kernel_rfl) (fun _ _ _ h => hP _ _ _ _ _ h) (Or.inl ⟨by rfl, ?_⟩) ?_ ?_
    rotate_left
    · intro w'
      go_simp
      with_reducible rfl
    rotate_left
    · simp only [Act.put, List.setIfInBounds_toArray, List.set_cons_zero, List.set_cons_succ, i64_w, i32_w]
      rfl
    refine pure_ (i := 11) (N := some 371) (v := ?_) (a' := ?_) #[true, true, true, true, true, true, true, true, true, true, true, true, false, false, false, false, false, false, false, false, false, false, false, false, false, false, false, false, false, false] rfl rfl (by kernel_rfl) (fun _ _ _ h => hP _ _ _ _ _ h) (Or.inl ⟨by rfl, ?_⟩) ?_ ?_
    rotate_left
    · intro w'
      go_simp
      with_reducible rfl
    rotate_left
    · simp only [Act.put, List.setIfInBounds_toArray, List.set_cons_zero, List.set_cons_succ, i64_w, i32_w]
      rfl
    refine pure_ (i := 12) (N := some 372) (v := ?_) (a' := ?_) #[true, true, true, true, true, true, true, true, true, true, true, true, true, false, false, false, false, false, false, false, false, false, false, false, false, false, false, false, false, false] rfl rfl (by kernel_rfl) (fun _ _ _ h => hP _ _ _ _ _ h) (Or.inl ⟨by rfl, ?_⟩) ?_ ?_
    rotate_left
    · intro w'
      go_simp
      with_reducible rfl
    rotate_left
    · simp only [Act.put, List.setIfInBounds_toArray, List.set_cons_zero, List.set_cons_succ, i64_w, i32_w]
      rfl
    refine pure_ (i := 13) (N := some 373) (v := ?_) (a' := ?_) #[true, true, true, true, true, true, true, true, true, true, true, true, true, true, false, false, false, false, false, false, false, false, false, false, false, false, false, false, false, false] rfl rfl (by kernel_rfl) (fun _ _ _ h => hP _ _ _ _ _ h) (Or.inl ⟨by rfl, ?_⟩) ?_ ?_
    rotate_left
    · intro w'
      go_simp
      with_reducible rfl
    rotate_left
    · simp only [Act.put, List.setIfInBounds_toArray, List.set_cons_zero, List.set_cons_succ, i64_w, i32_w]
      rfl
    refine pure_ (i := 14) (N := some 374) (v := ?_) (a' := ?_) #[true, true, true, true, true, true, true, true, true, true, true, true, true, true, true, false, false, false, false, false, false, false, false, false, false, false, false, false, false, false] rfl rfl (by kernel_rfl) (fun _ _ _ h => hP _ _ _ _ _ h) (Or.inl ⟨by rfl, ?_⟩) ?_ ?_
    rotate_left
    · intro w'
      go_simp
      with_reducible rfl
    rotate_left
    · simp only [Act.put, List.setIfInBounds_toArray, List.set_cons_zero, List.set_cons_succ, i64_w, i32_w]
      rfl
    refine take_ (i := 15) (N := some 375) (v := ?_) (a' := ?_) #[true, true, true, true, true, true, true, true, true, true, true, true, true, true, true, true, false, false, false, false, false, false, false, false, false, false, false, false, false, false] rfl rfl (by kernel_rfl) (fun _ _ _ h => hP _ _ _ _ _ h) (Or.inl ⟨by rfl, ?_⟩) hHeld ?_ ?_
    rotate_left
    · rintro w' ⟨s0, s1, s2, s3, s4, s5, s6, s7, s8, s9, s10, s11, s12, s13⟩
      go_simp
      with_reducible rfl
    rotate_left
    · simp only [Act.put, List.setIfInBounds_toArray, List.set_cons_zero, List.set_cons_succ, i64_w, i32_w]
      rfl
    refine pure_ (i := 16) (N := some 376) (v := ?_) (a' := ?_) #[true, true, true, true, true, true, true, true, true, true, true, true, true, true, true, true, true, false, false, false, false, false, false, false, false, false, false, false, false, false] rfl rfl (by kernel_rfl) (fun _ _ _ h => hP _ _ _ _ _ h) (Or.inl ⟨by rfl, ?_⟩) ?_ ?_
    rotate_left
    · intro w'
      go_simp
      with_reducible rfl
    rotate_left
    · simp only [Act.put, List.setIfInBounds_toArray, List.set_cons_zero, List.set_cons_succ, i64_w, i32_w]
      rfl
    refine pure_ (i := 17) (N := some 377) (v := ?_) (a' := ?_) #[true, true, true, true, true, true, true, true, true, true, true, true, true, true, true, true, true, true, false, false, false, false, false, false, false, false, false, false, false, false] rfl rfl (by kernel_rfl) (fun _ _ _ h => hP _ _ _ _ _ h) (Or.inl ⟨by rfl, ?_⟩) ?_ ?_
    rotate_left
    · intro w'
      go_simp
      with_reducible rfl
    rotate_left
    · simp only [Act.put, List.setIfInBounds_toArray, List.set_cons_zero, List.set_cons_succ, i64_w, i32_w]
      rfl
    refine pure_ (i := 18) (N := some 378) (v := ?_) (a' := ?_) #[true, true, true, true, true, true, true, true, true, true, true, true, true, true, true, true, true, true, true, false, false, false, false, false, false, false, false, false, false, false] rfl rfl (by kernel_rfl) (fun _ _ _ h => hP _ _ _ _ _ h) (Or.inl ⟨by rfl, ?_⟩) ?_ ?_
    rotate_left
    · intro w'
      go_simp
      with_reducible rfl
    rotate_left
    · simp only [Act.put, List.setIfInBounds_toArray, List.set_cons_zero, List.set_cons_succ, i64_w, i32_w]
      rfl
    refine pure_ (i := 19) (N := some 379) (v := ?_) (a' := ?_) #[true, true, true, true, true, true, true, true, true, true, true, true, true, true, true, true, true, true, true, true, false, false, false, false, false, false, false, false, false, false] rfl rfl (by kernel_rfl) (fun _ _ _ h => hP _ _ _ _ _ h) (Or.inl ⟨by rfl, ?_⟩) ?_ ?_
    rotate_left
    · intro w'
      go_simp
      with_reducible rfl
    rotate_left
    · simp only [Act.put, List.setIfInBounds_toArray, List.set_cons_zero, List.set_cons_succ, i64_w, i32_w]
      rfl
    refine pure_ (i := 20) (N := some 380) (v := ?_) (a' := ?_) #[true, true, true, true, true, true, true, true, true, true, true, true, true, true, true, true, true, true, true, true, true, false, false, false, false, false, false, false, false, false] rfl rfl (by kernel_rfl) (fun _ _ _ h => hP _ _ _ _ _ h) (Or.inl ⟨by rfl, ?_⟩) ?_ ?_
    rotate_left
    · intro w'
      go_simp
      with_reducible rfl
    rotate_left
    · simp only [Act.put, List.setIfInBounds_toArray, List.set_cons_zero, List.set_cons_succ, i64_w, i32_w]
      rfl
    refine take_ (i := 21) (N := some 381) (v := ?_) (a' := ?_) #[true, true, true, true, true, true, true, true, true, true, true, true, true, true, true, true, true, true, true, true, true, true, false, false, false, false, false, false, false, false] rfl rfl (by kernel_rfl) (fun _ _ _ h => hP _ _ _ _ _ h) (Or.inl ⟨by rfl, ?_⟩) hHeld ?_ ?_
    rotate_left
    · rintro w' ⟨s0, s1, s2, s3, s4, s5, s6, s7, s8, s9, s10, s11, s12, s13⟩
      go_simp
      with_reducible rfl
    rotate_left
    · simp only [Act.put, List.setIfInBounds_toArray, List.set_cons_zero, List.set_cons_succ, i64_w, i32_w]
      rfl
    refine pure_ (i := 22) (N := some 382) (v := ?_) (a' := ?_) #[true, true, true, true, true, true, true, true, true, true, true, true, true, true, true, true, true, true, true, true, true, true, true, false, false, false, false, false, false, false] rfl rfl (by kernel_rfl) (fun _ _ _ h => hP _ _ _ _ _ h) (Or.inl ⟨by rfl, ?_⟩) ?_ ?_
    rotate_left
    · intro w'
      go_simp
      with_reducible rfl
    rotate_left
    · simp only [Act.put, List.setIfInBounds_toArray, List.set_cons_zero, List.set_cons_succ, i64_w, i32_w]
      rfl
    refine pure_ (i := 23) (N := some 383) (v := ?_) (a' := ?_) #[true, true, true, true, true, true, true, true, true, true, true, true, true, true, true, true, true, true, true, true, true, true, true, true, false, false, false, false, false, false] rfl rfl (by kernel_rfl) (fun _ _ _ h => hP _ _ _ _ _ h) (Or.inl ⟨by rfl, ?_⟩) ?_ ?_
    rotate_left
    · intro w'
      go_simp
      with_reducible rfl
    rotate_left
    · simp only [Act.put, List.setIfInBounds_toArray, List.set_cons_zero, List.set_cons_succ, i64_w, i32_w]
      rfl
    refine pure_ (i := 24) (N := some 384) (v := ?_) (a' := ?_) #[true, true, true, true, true, true, true, true, true, true, true, true, true, true, true, true, true, true, true, true, true, true, true, true, true, false, false, false, false, false] rfl rfl (by kernel_rfl) (fun _ _ _ h => hP _ _ _ _ _ h) (Or.inl ⟨by rfl, ?_⟩) ?_ ?_
    rotate_left
    · intro w'
      go_simp
      with_reducible rfl
    rotate_left
    · simp only [Act.put, List.setIfInBounds_toArray, List.set_cons_zero, List.set_cons_succ, i64_w, i32_w]
      rfl
    refine take_ (i := 25) (N := some 385) (v := ?_) (a' := ?_) #[true, true, true, true, true, true, true, true, true, true, true, true, true, true, true, true, true, true, true, true, true, true, true, true, true, true, false, false, false, false] rfl rfl (by kernel_rfl) (fun _ _ _ h => hP _ _ _ _ _ h) (Or.inl ⟨by rfl, ?_⟩) hHeld ?_ ?_
    rotate_left
    · rintro w' ⟨s0, s1, s2, s3, s4, s5, s6, s7, s8, s9, s10, s11, s12, s13⟩
      go_simp
      with_reducible rfl
    rotate_left
    · simp only [Act.put, List.setIfInBounds_toArray, List.set_cons_zero, List.set_cons_succ, i64_w, i32_w]
      rfl
    refine pure_ (i := 26) (N := some 386) (v := ?_) (a' := ?_) #[true, true, true, true, true, true, true, true, true, true, true, true, true, true, true, true, true, true, true, true, true, true, true, true, true, true, true, false, false, false] rfl rfl (by kernel_rfl) (fun _ _ _ h => hP _ _ _ _ _ h) (Or.inl ⟨by rfl, ?_⟩) ?_ ?_
    rotate_left
    · intro w'
      go_simp
      with_reducible rfl
    rotate_left
    · simp only [Act.put, List.setIfInBounds_toArray, List.set_cons_zero, List.set_cons_succ, i64_w, i32_w]
      rfl
    refine take_ (i := 27) (N := some 387) (v := ?_) (a' := ?_) #[true, true, true, true, true, true, true, true, true, true, true, true, true, true, true, true, true, true, true, true, true, true, true, true, true, true, true, true, false, false] rfl rfl (by kernel_rfl) (fun _ _ _ h => hP _ _ _ _ _ h) (Or.inl ⟨by rfl, ?_⟩) hHeld ?_ ?_
    rotate_left
    · rintro w' ⟨s0, s1, s2, s3, s4, s5, s6, s7, s8, s9, s10, s11, s12, s13⟩
      go_simp
      with_reducible rfl
    rotate_left
    · simp only [Act.put, List.setIfInBounds_toArray, List.set_cons_zero, List.set_cons_succ, i64_w, i32_w]
      rfl
    refine pure_ (i := 28) (N := some 388) (v := ?_) (a' := ?_) #[true, true, true, true, true, true, true, true, true, true, true, true, true, true, true, true, true, true, true, true, true, true, true, true, true, true, true, true, true, false] rfl rfl (by kernel_rfl) (fun _ _ _ h => hP _ _ _ _ _ h) (Or.inl ⟨by rfl, ?_⟩) ?_ ?_
    rotate_left
    · intro w'
      go_simp
      with_reducible rfl
    rotate_left
    · simp only [Act.put, List.setIfInBounds_toArray, List.set_cons_zero, List.set_cons_succ, i64_w, i32_w]
      rfl
    refine pure_ (i := 29) (N := some 389) (v := ?_) (a' := ?_) #[true, true, true, true, true, true, true, true, true, true, true, true, true, true, true, true, true, true, true, true, true, true, true, true, true, true, true, true, true, true] rfl rfl (by kernel_rfl) (fun _ _ _ h => hP _ _ _ _ _ h) (Or.inl ⟨by rfl, ?_⟩) ?_ ?_
    rotate_left
    · intro w'
      go_simp
      with_reducible rfl
    rotate_left
    · simp only [Act.put, List.setIfInBounds_toArray, List.set_cons_zero, List.set_cons_succ, i64_w, i32_w]
      rfl
    refine done_ (by kernel_rfl) ?_
    clear hHeld
    have l6 : w10.cell? ⟨wq.heap.size, 6, none⟩ = some (.slice A6 y.f3.length c6) := (blk_cell HY10.out 6).trans rfl
    go_wp2_with fail
    refine loop6 w w10 l A c hb N _ xs k y w6.heap.size A6 c6 _ _ ?_ HLD.out HLE.out (by have := HF.out; omega) (PU_mk N ⟨HS10.out, HT10.out, Kd.C_below HC.out.2 HB10.out⟩ (by kernel_rfl))
    rintro a w' ⟨u2, N2, ⟨hS2, -, -⟩, rfl⟩
    have HS11 := Aside0.mk hS2
    clear hS2
    go_wp2_with fail
    exact hK _ _ HF.out.1 (PT_mk N2 HS11.out (by kernel_rfl))
  · obtain rfl : k = xs.length := by omega
    have b1 : decide ((xs.length : Int) < (xs.length : Int)) = false := decide_eq_false (by omega)
    have b2 : decide (xs.length < xs.length) = false := decide_eq_false (by omega)
    have HS := Aside0.mk hS
    clear h hS hw hk hb1 ht
    go_wp2_with fail
    exact hX _ _ (PT_mk N HS.out (by kernel_rfl))
theorem loop5 (w wq : World) (l : List S34) (A : Option Addr) (c hb : Nat) (v : Value) (xs : List S67) (a : Act) (Q : Exit → Act → World → Prop)
    (hX : ∀ a w', PT w l A c hb v xs xs.length a w' → Q (.exit 11) a w') (hP : ∀ c a N v w', Q (.panic c) (Act.put a N v) w' → Q (.panic c) a w')
    (hw : WF xs) (hb1 : xs.length ≤ 40) (ht : tot xs ≤ 65536) (h0 : PT w l A c hb v xs 0 a wq) : Code.wp Try.prog (Code.loop L5) Q a wq := by
  refine wp_loop_ghost (fun n a w' => ∃ k, k + n = xs.length ∧ PT w l A c hb v xs k a w') xs.length ⟨0, by omega, h0⟩ ?_
  rintro n a w' ⟨k, hk, u, M, hS, rfl⟩
  exact L5_round w w' l A c hb M v xs k u _ (fun a w' hlt h => ⟨n - 1, by omega, k + 1, by omega, h⟩) (fun a w' h => hX a w' h) (fun c a N v w' h => hP c a N v w' h) hS hw (by omega) hb1 ht
end Go.Proofs.Ytlfkmignkilplaa.PHeapPlays
