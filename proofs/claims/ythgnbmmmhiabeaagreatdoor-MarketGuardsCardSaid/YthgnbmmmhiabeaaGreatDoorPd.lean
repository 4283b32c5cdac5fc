/- Of the proof, a part (together they pass the memory). -/
import Derived.Test.YthgnbmmmhiabeaaGreatDoorRows
import Derived.WalkKit
import Derived.ProofKit
import Derived.OpenShut
import Derived.ChangeSame
import Derived.ChangeVars
import Derived.JoinedOf
import Derived.RowKit
import Derived.RowKitTokens
import Derived.LaidLaws
import Derived.LaidHandle
import Derived.Stop.Joined
import Derived.SevenTiedAt
namespace Go.Proofs.YthgnbmmmhiabeaaGreatDoor.marketGuards
open Go.ChangeShapes Go.WideShapes Go.ChangeAt Go.RowKit
set_option linter.unusedVariables false

/-! ### What the row says of the call's text: off the list of what it can come to, once. -/
theorem clIs : Tryz.prog.closure 3 = [3, 4, 5, 34, 35, 18, 66, 32, 67, 124, 181, 253, 252, 176, 182, 68, 125, 126, 127, 128, 183, 254, 69, 45, 97, 10, 46, 47, 8, 7, 37, 38, 80, 79, 135, 187, 257, 81, 30, 28, 82, 83, 103, 156, 136, 188, 258, 341, 184, 255, 401, 73, 131, 137, 189, 259, 272, 349, 350, 164, 239, 240, 336, 268, 347, 334, 398, 436, 335, 399, 437, 267, 260, 190, 261, 343, 342, 403, 404, 402, 405, 344, 48, 98, 99, 100, 101, 153, 154, 155, 262, 263, 191, 264, 345, 346, 265, 192, 84, 86, 87, 138, 193, 266, 194, 269, 348, 270, 139, 195, 271, 290, 273, 315, 351, 274, 352, 353, 406, 438, 196, 275, 354, 355, 409, 408, 440, 441, 462, 479, 407, 439, 412, 411, 443, 444, 445, 463, 480, 446, 410, 442, 356, 197, 276, 277, 278, 357, 358, 413, 447, 414, 417, 416, 449, 450, 451, 464, 481, 452, 415, 448, 359, 198, 199, 279, 292, 310, 380, 280, 360, 361, 140, 141, 200, 282, 281, 362, 284, 283, 363, 201, 286, 285, 364, 202, 287, 365, 418, 419, 420, 453, 465, 454, 466, 203, 288, 366, 369, 424, 289, 367, 368, 421, 422, 423, 455, 467, 456, 468, 204, 291, 205, 206, 293, 294, 39, 85, 88, 142, 207, 295, 370, 296, 371, 143, 89, 90, 144, 208, 297, 91, 77, 134, 53, 108, 40, 41, 92, 93, 146, 209, 298, 372, 425, 457, 234, 329, 330, 469, 482, 483, 494, 484, 385, 386, 485, 495, 496, 498, 486, 487, 488, 489, 458, 223, 426, 220, 311, 382, 431, 381, 429, 459, 430, 460, 470, 476, 493, 471, 490, 472, 473, 491, 492, 497, 474, 475, 477, 478, 299, 145, 36, 76, 78, 55, 109, 111, 160, 110, 158, 232, 159, 233, 320, 326, 389, 321, 384, 322, 323, 387, 388, 432, 324, 325, 327, 328, 112, 161, 29, 235, 331, 162, 236, 332, 237, 333, 390, 391, 433, 392, 393, 434, 435, 461, 394, 395, 396, 397, 163, 238, 113, 165, 241, 42, 94, 13, 52, 51, 107, 33, 75, 11, 6, 9, 43, 44, 95, 147, 149, 213, 214, 212, 305, 216, 215, 306, 210, 173, 243, 211, 300, 373, 301, 302, 303, 304, 374, 375, 376, 427, 148, 59, 115, 172, 171, 96, 150, 217, 307, 377, 378, 428, 379, 308, 309, 218, 219, 222, 224, 225, 313, 221, 312, 151, 226, 227, 152, 228, 229, 314, 231, 317, 383, 318, 319, 230, 316, 12, 49, 50, 102, 104, 157, 105, 106, 14, 54, 15, 56, 57, 114, 166, 167, 168, 242, 169, 170, 16, 58, 60, 62, 116, 117, 118, 174, 175, 244, 337, 61, 17, 63, 64, 119, 177, 178, 179, 120, 180, 245, 247, 248, 339, 400, 246, 338, 249, 340, 250, 251, 121, 123, 122, 65, 19, 20, 21, 23, 22, 70, 129, 24, 26, 25, 71, 72, 130, 185, 27, 31, 74, 132, 133, 186, 256] := by kernel_rfl
theorem inIs : Tryz.prog.inPlace 3 = ["math.Float64bits", "internal/bytealg.abigen_runtime_cmpstring", "internal/reflectlite.ValueOf", "(internal/reflectlite.Value).Type", "(internal/reflectlite.Value).IsNil", "internal/reflectlite.TypeOf", "(internal/reflectlite.Value).Elem", "(internal/reflectlite.Value).Set", "slices.overlaps[int64]", "slices.overlaps[rialto/api.Entry]", "slices.overlaps[*rialto/tree.node[rialto/api.Entry]]", "slices.overlaps[*rialto/tree.node[int64]]", "slices.overlaps[*rialto/index.Index]"] := by unfold Program.inPlace; rw [clIs]; kernel_rfl
theorem unIs : Tryz.prog.unfollowed 3 = true := by unfold Program.unfollowed; rw [clIs]; kernel_rfl
theorem reIs : Tryz.prog.recurses 3 = true := by unfold Program.recurses; rw [unIs]; rfl
theorem vaIs : Tryz.prog.varsNamed 3 = ["errors.errorType"] := by unfold Program.varsNamed; rw [clIs]; kernel_rfl
theorem goIs : Tryz.prog.goes 3 = false := by unfold Program.goes; rw [clIs, unIs]; kernel_rfl
theorem fnIs : Tryz.prog.funcNamed Rows.marketGuardsRow.func = some 3 := by kernel_rfl
theorem goesIs : false = Rows.marketGuardsRow.goesBy Tryz.prog := by
  unfold OpenClaim.goesBy Program.goesAt Program.goesFrom
  rw [fnIs, Option.any_some, goIs]
  rfl
end Go.Proofs.YthgnbmmmhiabeaaGreatDoor.marketGuards
