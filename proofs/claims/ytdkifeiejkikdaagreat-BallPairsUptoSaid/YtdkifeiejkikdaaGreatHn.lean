/- Hn: points near to places: the program's functions. -/
import Derived.Test.YtdkifeiejkikdaaGreatHb
import Derived.Test.YtdkifeiejkikdaaGreatHs
set_option maxRecDepth 40000
set_option maxHeartbeats 40000000
set_option linter.unusedVariables false
set_option linter.unusedSimpArgs false
namespace Go.Px
open Go.RowKit
def ir_vec_Sub : IR :=
 .call F.rat_Sub [.agg [.var 0, .var 1, .var 2], .agg [.var 9, .var 10, .var 11]] [.agg 3] <|
 .call F.rat_Sub [.agg [.var 3, .var 4, .var 5], .agg [.var 12, .var 13, .var 14]] [.agg 3] <|
 .call F.rat_Sub [.agg [.var 6, .var 7, .var 8], .agg [.var 15, .var 16, .var 17]] [.agg 3] <|
 .ret [.agg [.var 18, .var 19, .var 20, .var 21, .var 22, .var 23, .var 24, .var 25, .var 26]]

def ir_vec_Dot : IR :=
 .prim (.mk 2) [.var 0, .var 1, .var 2, .var 9, .var 10, .var 11] <|
 .call F.rat_Product [.one (.var 18)] [.agg 3] <|
 .prim (.mk 2) [.var 3, .var 4, .var 5, .var 12, .var 13, .var 14] <|
 .call F.rat_Product [.one (.var 22)] [.agg 3] <|
 .prim (.mk 2) [.var 6, .var 7, .var 8, .var 15, .var 16, .var 17] <|
 .call F.rat_Product [.one (.var 26)] [.agg 3] <|
 .prim (.mk 3) [.var 19, .var 20, .var 21, .var 23, .var 24, .var 25, .var 27, .var 28, .var 29] <|
 .call F.rat_Sum [.one (.var 30)] [.agg 3] <|
 .ret [.agg [.var 31, .var 32, .var 33]]

def ir_ball_Far : IR :=
 .call F.vec_Sub [.agg [.var 9, .var 10, .var 11, .var 12, .var 13, .var 14, .var 15, .var 16, .var 17], .agg [.var 0, .var 1, .var 2, .var 3, .var 4, .var 5, .var 6, .var 7, .var 8]] [.agg 9] <|
 .call F.vec_Dot [.agg [.var 18, .var 19, .var 20, .var 21, .var 22, .var 23, .var 24, .var 25, .var 26], .agg [.var 18, .var 19, .var 20, .var 21, .var 22, .var 23, .var 24, .var 25, .var 26]] [.agg 3] <|
 .ret [.agg [.var 27, .var 28, .var 29]]

def ir___ball_seeker__slots : IR :=
 .call F.rat_Neg [.agg [.var 3, .var 4, .var 5]] [.agg 3] <|
 .call F.rat_Of [.one (.int .i64 (0)), .one (.int .i64 (1))] [.agg 3] <|
 .call F.rat_Read [.agg [.var 3, .var 4, .var 5]] [.agg 3] <|
 .prim (.mk 2) [.var 10, .var 11, .var 12, .var 13, .var 14, .var 15, .var 16, .var 17, .var 18, .var 19, .var 20, .var 21, .var 19, .var 20, .var 21, .var 19, .var 20, .var 21] <|
 .call F.vec_Sum [.one (.var 28)] [.agg 9] <|
 .call F.grid_Slot [.agg [.var 29, .var 30, .var 31, .var 32, .var 33, .var 34, .var 35, .var 36, .var 37], .agg [.var 3, .var 4, .var 5], .one (.var 9)] [.one, .one] <|
 .prim (.mk 1) [.var 38] <|
 .prim (.app 1 8) [.nil, .var 40] <|
 .prim (.mk 2) [.var 10, .var 11, .var 12, .var 13, .var 14, .var 15, .var 16, .var 17, .var 18, .var 19, .var 20, .var 21, .var 19, .var 20, .var 21, .var 22, .var 23, .var 24] <|
 .call F.vec_Sum [.one (.var 42)] [.agg 9] <|
 .call F.grid_Slot [.agg [.var 43, .var 44, .var 45, .var 46, .var 47, .var 48, .var 49, .var 50, .var 51], .agg [.var 3, .var 4, .var 5], .one (.var 9)] [.one, .one] <|
 .prim (.mk 1) [.var 52] <|
 .prim (.app 1 8) [.var 41, .var 54] <|
 .prim (.mk 2) [.var 10, .var 11, .var 12, .var 13, .var 14, .var 15, .var 16, .var 17, .var 18, .var 19, .var 20, .var 21, .var 19, .var 20, .var 21, .var 25, .var 26, .var 27] <|
 .call F.vec_Sum [.one (.var 56)] [.agg 9] <|
 .call F.grid_Slot [.agg [.var 57, .var 58, .var 59, .var 60, .var 61, .var 62, .var 63, .var 64, .var 65], .agg [.var 3, .var 4, .var 5], .one (.var 9)] [.one, .one] <|
 .prim (.mk 1) [.var 66] <|
 .prim (.app 1 8) [.var 55, .var 68] <|
 .prim (.mk 2) [.var 10, .var 11, .var 12, .var 13, .var 14, .var 15, .var 16, .var 17, .var 18, .var 19, .var 20, .var 21, .var 22, .var 23, .var 24, .var 19, .var 20, .var 21] <|
 .call F.vec_Sum [.one (.var 70)] [.agg 9] <|
 .call F.grid_Slot [.agg [.var 71, .var 72, .var 73, .var 74, .var 75, .var 76, .var 77, .var 78, .var 79], .agg [.var 3, .var 4, .var 5], .one (.var 9)] [.one, .one] <|
 .prim (.mk 1) [.var 80] <|
 .prim (.app 1 8) [.var 69, .var 82] <|
 .prim (.mk 2) [.var 10, .var 11, .var 12, .var 13, .var 14, .var 15, .var 16, .var 17, .var 18, .var 19, .var 20, .var 21, .var 22, .var 23, .var 24, .var 22, .var 23, .var 24] <|
 .call F.vec_Sum [.one (.var 84)] [.agg 9] <|
 .call F.grid_Slot [.agg [.var 85, .var 86, .var 87, .var 88, .var 89, .var 90, .var 91, .var 92, .var 93], .agg [.var 3, .var 4, .var 5], .one (.var 9)] [.one, .one] <|
 .prim (.mk 1) [.var 94] <|
 .prim (.app 1 8) [.var 83, .var 96] <|
 .prim (.mk 2) [.var 10, .var 11, .var 12, .var 13, .var 14, .var 15, .var 16, .var 17, .var 18, .var 19, .var 20, .var 21, .var 22, .var 23, .var 24, .var 25, .var 26, .var 27] <|
 .call F.vec_Sum [.one (.var 98)] [.agg 9] <|
 .call F.grid_Slot [.agg [.var 99, .var 100, .var 101, .var 102, .var 103, .var 104, .var 105, .var 106, .var 107], .agg [.var 3, .var 4, .var 5], .one (.var 9)] [.one, .one] <|
 .prim (.mk 1) [.var 108] <|
 .prim (.app 1 8) [.var 97, .var 110] <|
 .prim (.mk 2) [.var 10, .var 11, .var 12, .var 13, .var 14, .var 15, .var 16, .var 17, .var 18, .var 19, .var 20, .var 21, .var 25, .var 26, .var 27, .var 19, .var 20, .var 21] <|
 .call F.vec_Sum [.one (.var 112)] [.agg 9] <|
 .call F.grid_Slot [.agg [.var 113, .var 114, .var 115, .var 116, .var 117, .var 118, .var 119, .var 120, .var 121], .agg [.var 3, .var 4, .var 5], .one (.var 9)] [.one, .one] <|
 .prim (.mk 1) [.var 122] <|
 .prim (.app 1 8) [.var 111, .var 124] <|
 .prim (.mk 2) [.var 10, .var 11, .var 12, .var 13, .var 14, .var 15, .var 16, .var 17, .var 18, .var 19, .var 20, .var 21, .var 25, .var 26, .var 27, .var 22, .var 23, .var 24] <|
 .call F.vec_Sum [.one (.var 126)] [.agg 9] <|
 .call F.grid_Slot [.agg [.var 127, .var 128, .var 129, .var 130, .var 131, .var 132, .var 133, .var 134, .var 135], .agg [.var 3, .var 4, .var 5], .one (.var 9)] [.one, .one] <|
 .prim (.mk 1) [.var 136] <|
 .prim (.app 1 8) [.var 125, .var 138] <|
 .prim (.mk 2) [.var 10, .var 11, .var 12, .var 13, .var 14, .var 15, .var 16, .var 17, .var 18, .var 19, .var 20, .var 21, .var 25, .var 26, .var 27, .var 25, .var 26, .var 27] <|
 .call F.vec_Sum [.one (.var 140)] [.agg 9] <|
 .call F.grid_Slot [.agg [.var 141, .var 142, .var 143, .var 144, .var 145, .var 146, .var 147, .var 148, .var 149], .agg [.var 3, .var 4, .var 5], .one (.var 9)] [.one, .one] <|
 .prim (.mk 1) [.var 150] <|
 .prim (.app 1 8) [.var 139, .var 152] <|
 .prim (.mk 2) [.var 10, .var 11, .var 12, .var 13, .var 14, .var 15, .var 16, .var 17, .var 18, .var 22, .var 23, .var 24, .var 19, .var 20, .var 21, .var 19, .var 20, .var 21] <|
 .call F.vec_Sum [.one (.var 154)] [.agg 9] <|
 .call F.grid_Slot [.agg [.var 155, .var 156, .var 157, .var 158, .var 159, .var 160, .var 161, .var 162, .var 163], .agg [.var 3, .var 4, .var 5], .one (.var 9)] [.one, .one] <|
 .prim (.mk 1) [.var 164] <|
 .prim (.app 1 8) [.var 153, .var 166] <|
 .prim (.mk 2) [.var 10, .var 11, .var 12, .var 13, .var 14, .var 15, .var 16, .var 17, .var 18, .var 22, .var 23, .var 24, .var 19, .var 20, .var 21, .var 22, .var 23, .var 24] <|
 .call F.vec_Sum [.one (.var 168)] [.agg 9] <|
 .call F.grid_Slot [.agg [.var 169, .var 170, .var 171, .var 172, .var 173, .var 174, .var 175, .var 176, .var 177], .agg [.var 3, .var 4, .var 5], .one (.var 9)] [.one, .one] <|
 .prim (.mk 1) [.var 178] <|
 .prim (.app 1 8) [.var 167, .var 180] <|
 .prim (.mk 2) [.var 10, .var 11, .var 12, .var 13, .var 14, .var 15, .var 16, .var 17, .var 18, .var 22, .var 23, .var 24, .var 19, .var 20, .var 21, .var 25, .var 26, .var 27] <|
 .call F.vec_Sum [.one (.var 182)] [.agg 9] <|
 .call F.grid_Slot [.agg [.var 183, .var 184, .var 185, .var 186, .var 187, .var 188, .var 189, .var 190, .var 191], .agg [.var 3, .var 4, .var 5], .one (.var 9)] [.one, .one] <|
 .prim (.mk 1) [.var 192] <|
 .prim (.app 1 8) [.var 181, .var 194] <|
 .prim (.mk 2) [.var 10, .var 11, .var 12, .var 13, .var 14, .var 15, .var 16, .var 17, .var 18, .var 22, .var 23, .var 24, .var 22, .var 23, .var 24, .var 19, .var 20, .var 21] <|
 .call F.vec_Sum [.one (.var 196)] [.agg 9] <|
 .call F.grid_Slot [.agg [.var 197, .var 198, .var 199, .var 200, .var 201, .var 202, .var 203, .var 204, .var 205], .agg [.var 3, .var 4, .var 5], .one (.var 9)] [.one, .one] <|
 .prim (.mk 1) [.var 206] <|
 .prim (.app 1 8) [.var 195, .var 208] <|
 .prim (.mk 2) [.var 10, .var 11, .var 12, .var 13, .var 14, .var 15, .var 16, .var 17, .var 18, .var 22, .var 23, .var 24, .var 22, .var 23, .var 24, .var 22, .var 23, .var 24] <|
 .call F.vec_Sum [.one (.var 210)] [.agg 9] <|
 .call F.grid_Slot [.agg [.var 211, .var 212, .var 213, .var 214, .var 215, .var 216, .var 217, .var 218, .var 219], .agg [.var 3, .var 4, .var 5], .one (.var 9)] [.one, .one] <|
 .prim (.mk 1) [.var 220] <|
 .prim (.app 1 8) [.var 209, .var 222] <|
 .prim (.mk 2) [.var 10, .var 11, .var 12, .var 13, .var 14, .var 15, .var 16, .var 17, .var 18, .var 22, .var 23, .var 24, .var 22, .var 23, .var 24, .var 25, .var 26, .var 27] <|
 .call F.vec_Sum [.one (.var 224)] [.agg 9] <|
 .call F.grid_Slot [.agg [.var 225, .var 226, .var 227, .var 228, .var 229, .var 230, .var 231, .var 232, .var 233], .agg [.var 3, .var 4, .var 5], .one (.var 9)] [.one, .one] <|
 .prim (.mk 1) [.var 234] <|
 .prim (.app 1 8) [.var 223, .var 236] <|
 .prim (.mk 2) [.var 10, .var 11, .var 12, .var 13, .var 14, .var 15, .var 16, .var 17, .var 18, .var 22, .var 23, .var 24, .var 25, .var 26, .var 27, .var 19, .var 20, .var 21] <|
 .call F.vec_Sum [.one (.var 238)] [.agg 9] <|
 .call F.grid_Slot [.agg [.var 239, .var 240, .var 241, .var 242, .var 243, .var 244, .var 245, .var 246, .var 247], .agg [.var 3, .var 4, .var 5], .one (.var 9)] [.one, .one] <|
 .prim (.mk 1) [.var 248] <|
 .prim (.app 1 8) [.var 237, .var 250] <|
 .prim (.mk 2) [.var 10, .var 11, .var 12, .var 13, .var 14, .var 15, .var 16, .var 17, .var 18, .var 22, .var 23, .var 24, .var 25, .var 26, .var 27, .var 22, .var 23, .var 24] <|
 .call F.vec_Sum [.one (.var 252)] [.agg 9] <|
 .call F.grid_Slot [.agg [.var 253, .var 254, .var 255, .var 256, .var 257, .var 258, .var 259, .var 260, .var 261], .agg [.var 3, .var 4, .var 5], .one (.var 9)] [.one, .one] <|
 .prim (.mk 1) [.var 262] <|
 .prim (.app 1 8) [.var 251, .var 264] <|
 .prim (.mk 2) [.var 10, .var 11, .var 12, .var 13, .var 14, .var 15, .var 16, .var 17, .var 18, .var 22, .var 23, .var 24, .var 25, .var 26, .var 27, .var 25, .var 26, .var 27] <|
 .call F.vec_Sum [.one (.var 266)] [.agg 9] <|
 .call F.grid_Slot [.agg [.var 267, .var 268, .var 269, .var 270, .var 271, .var 272, .var 273, .var 274, .var 275], .agg [.var 3, .var 4, .var 5], .one (.var 9)] [.one, .one] <|
 .prim (.mk 1) [.var 276] <|
 .prim (.app 1 8) [.var 265, .var 278] <|
 .prim (.mk 2) [.var 10, .var 11, .var 12, .var 13, .var 14, .var 15, .var 16, .var 17, .var 18, .var 25, .var 26, .var 27, .var 19, .var 20, .var 21, .var 19, .var 20, .var 21] <|
 .call F.vec_Sum [.one (.var 280)] [.agg 9] <|
 .call F.grid_Slot [.agg [.var 281, .var 282, .var 283, .var 284, .var 285, .var 286, .var 287, .var 288, .var 289], .agg [.var 3, .var 4, .var 5], .one (.var 9)] [.one, .one] <|
 .prim (.mk 1) [.var 290] <|
 .prim (.app 1 8) [.var 279, .var 292] <|
 .prim (.mk 2) [.var 10, .var 11, .var 12, .var 13, .var 14, .var 15, .var 16, .var 17, .var 18, .var 25, .var 26, .var 27, .var 19, .var 20, .var 21, .var 22, .var 23, .var 24] <|
 .call F.vec_Sum [.one (.var 294)] [.agg 9] <|
 .call F.grid_Slot [.agg [.var 295, .var 296, .var 297, .var 298, .var 299, .var 300, .var 301, .var 302, .var 303], .agg [.var 3, .var 4, .var 5], .one (.var 9)] [.one, .one] <|
 .prim (.mk 1) [.var 304] <|
 .prim (.app 1 8) [.var 293, .var 306] <|
 .prim (.mk 2) [.var 10, .var 11, .var 12, .var 13, .var 14, .var 15, .var 16, .var 17, .var 18, .var 25, .var 26, .var 27, .var 19, .var 20, .var 21, .var 25, .var 26, .var 27] <|
 .call F.vec_Sum [.one (.var 308)] [.agg 9] <|
 .call F.grid_Slot [.agg [.var 309, .var 310, .var 311, .var 312, .var 313, .var 314, .var 315, .var 316, .var 317], .agg [.var 3, .var 4, .var 5], .one (.var 9)] [.one, .one] <|
 .prim (.mk 1) [.var 318] <|
 .prim (.app 1 8) [.var 307, .var 320] <|
 .prim (.mk 2) [.var 10, .var 11, .var 12, .var 13, .var 14, .var 15, .var 16, .var 17, .var 18, .var 25, .var 26, .var 27, .var 22, .var 23, .var 24, .var 19, .var 20, .var 21] <|
 .call F.vec_Sum [.one (.var 322)] [.agg 9] <|
 .call F.grid_Slot [.agg [.var 323, .var 324, .var 325, .var 326, .var 327, .var 328, .var 329, .var 330, .var 331], .agg [.var 3, .var 4, .var 5], .one (.var 9)] [.one, .one] <|
 .prim (.mk 1) [.var 332] <|
 .prim (.app 1 8) [.var 321, .var 334] <|
 .prim (.mk 2) [.var 10, .var 11, .var 12, .var 13, .var 14, .var 15, .var 16, .var 17, .var 18, .var 25, .var 26, .var 27, .var 22, .var 23, .var 24, .var 22, .var 23, .var 24] <|
 .call F.vec_Sum [.one (.var 336)] [.agg 9] <|
 .call F.grid_Slot [.agg [.var 337, .var 338, .var 339, .var 340, .var 341, .var 342, .var 343, .var 344, .var 345], .agg [.var 3, .var 4, .var 5], .one (.var 9)] [.one, .one] <|
 .prim (.mk 1) [.var 346] <|
 .prim (.app 1 8) [.var 335, .var 348] <|
 .prim (.mk 2) [.var 10, .var 11, .var 12, .var 13, .var 14, .var 15, .var 16, .var 17, .var 18, .var 25, .var 26, .var 27, .var 22, .var 23, .var 24, .var 25, .var 26, .var 27] <|
 .call F.vec_Sum [.one (.var 350)] [.agg 9] <|
 .call F.grid_Slot [.agg [.var 351, .var 352, .var 353, .var 354, .var 355, .var 356, .var 357, .var 358, .var 359], .agg [.var 3, .var 4, .var 5], .one (.var 9)] [.one, .one] <|
 .prim (.mk 1) [.var 360] <|
 .prim (.app 1 8) [.var 349, .var 362] <|
 .prim (.mk 2) [.var 10, .var 11, .var 12, .var 13, .var 14, .var 15, .var 16, .var 17, .var 18, .var 25, .var 26, .var 27, .var 25, .var 26, .var 27, .var 19, .var 20, .var 21] <|
 .call F.vec_Sum [.one (.var 364)] [.agg 9] <|
 .call F.grid_Slot [.agg [.var 365, .var 366, .var 367, .var 368, .var 369, .var 370, .var 371, .var 372, .var 373], .agg [.var 3, .var 4, .var 5], .one (.var 9)] [.one, .one] <|
 .prim (.mk 1) [.var 374] <|
 .prim (.app 1 8) [.var 363, .var 376] <|
 .prim (.mk 2) [.var 10, .var 11, .var 12, .var 13, .var 14, .var 15, .var 16, .var 17, .var 18, .var 25, .var 26, .var 27, .var 25, .var 26, .var 27, .var 22, .var 23, .var 24] <|
 .call F.vec_Sum [.one (.var 378)] [.agg 9] <|
 .call F.grid_Slot [.agg [.var 379, .var 380, .var 381, .var 382, .var 383, .var 384, .var 385, .var 386, .var 387], .agg [.var 3, .var 4, .var 5], .one (.var 9)] [.one, .one] <|
 .prim (.mk 1) [.var 388] <|
 .prim (.app 1 8) [.var 377, .var 390] <|
 .prim (.mk 2) [.var 10, .var 11, .var 12, .var 13, .var 14, .var 15, .var 16, .var 17, .var 18, .var 25, .var 26, .var 27, .var 25, .var 26, .var 27, .var 25, .var 26, .var 27] <|
 .call F.vec_Sum [.one (.var 392)] [.agg 9] <|
 .call F.grid_Slot [.agg [.var 393, .var 394, .var 395, .var 396, .var 397, .var 398, .var 399, .var 400, .var 401], .agg [.var 3, .var 4, .var 5], .one (.var 9)] [.one, .one] <|
 .prim (.mk 1) [.var 402] <|
 .prim (.app 1 8) [.var 391, .var 404] <|
 .rowc F.slices_Sort___int_int_ false 3 (.var 405) <|
 .rowc F.slices_Compact___int_int_ true 3 (.var 406) <|
 .ret [.own 1 3 (.var 407)]

def ir___ball_seeker__near : IR :=
 .call F.__ball_seeker__slots [.ref [.var 0, .var 1, .var 2, .var 3, .var 4, .var 5, .var 6, .var 7, .var 8, .var 9], .agg [.var 10, .var 11, .var 12, .var 13, .var 14, .var 15, .var 16, .var 17, .var 18]] [.own 1 3] <|
 .prim .len [.var 19] <|
 .loop [.var 20, .int .i64 (0), .var 0, .var 1, .var 2, .var 3, .var 4, .var 5, .var 6, .var 7, .var 8, .var 9, .var 10, .var 11, .var 12, .var 13, .var 14, .var 15, .var 16, .var 17, .var 18, .nil, .var 19] (
  .prim (.bin .lss) [.var 1, .var 0] <|
  .ite (.var 23) (
   .prim (.inb 1) [.var 22, .var 1] <|
   .prim (.get 1 0) [.var 22, .var 1] <|
   .prim (.inb 1) [.var 2, .var 25] <|
   .prim (.get 1 0) [.var 2, .var 25] <|
   .loop [.var 27, .var 0, .var 1, .var 2, .var 3, .var 4, .var 5, .var 6, .var 7, .var 8, .var 9, .var 10, .var 11, .var 12, .var 13, .var 14, .var 15, .var 16, .var 17, .var 18, .var 19, .var 20, .var 21, .var 22] (
    .prim (.bin .neq) [.var 0, .int .i64 (-1)] <|
    .ite (.var 24) (
     .prim (.inb 9) [.var 5, .var 0] <|
     .prim (.get 9 0) [.var 5, .var 0] <|
     .prim (.get 9 1) [.var 5, .var 0] <|
     .prim (.get 9 2) [.var 5, .var 0] <|
     .prim (.get 9 3) [.var 5, .var 0] <|
     .prim (.get 9 4) [.var 5, .var 0] <|
     .prim (.get 9 5) [.var 5, .var 0] <|
     .prim (.get 9 6) [.var 5, .var 0] <|
     .prim (.get 9 7) [.var 5, .var 0] <|
     .prim (.get 9 8) [.var 5, .var 0] <|
     .call F.ball_Far [.agg [.var 26, .var 27, .var 28, .var 29, .var 30, .var 31, .var 32, .var 33, .var 34], .agg [.var 13, .var 14, .var 15, .var 16, .var 17, .var 18, .var 19, .var 20, .var 21]] [.agg 3] <|
     .call F.rat_Cmp [.agg [.var 35, .var 36, .var 37], .agg [.var 9, .var 10, .var 11]] [.one] <|
     .prim (.bin .leq) [.var 38, .int .i64 (0)] <|
     .ite (.var 39) (
      .prim (.mk 1) [.var 0] <|
      .prim (.app 1 8) [.var 22, .var 40] <|
      .prim (.inb 1) [.var 4, .var 0] <|
      .prim (.get 1 0) [.var 4, .var 0] <|
      .jump 1 [.var 43, .var 1, .var 2, .var 3, .var 4, .var 5, .var 6, .var 7, .var 8, .var 9, .var 10, .var 11, .var 12, .var 13, .var 14, .var 15, .var 16, .var 17, .var 18, .var 19, .var 20, .var 21, .var 41, .var 23]) (
      .prim (.inb 1) [.var 4, .var 0] <|
      .prim (.get 1 0) [.var 4, .var 0] <|
      .jump 1 [.var 41, .var 1, .var 2, .var 3, .var 4, .var 5, .var 6, .var 7, .var 8, .var 9, .var 10, .var 11, .var 12, .var 13, .var 14, .var 15, .var 16, .var 17, .var 18, .var 19, .var 20, .var 21, .var 22, .var 23])) (
     .prim (.bin .add) [.var 2, .int .i64 (1)] <|
     .jump 0 [.var 1, .var 25, .var 3, .var 4, .var 5, .var 6, .var 7, .var 8, .var 9, .var 10, .var 11, .var 12, .var 13, .var 14, .var 15, .var 16, .var 17, .var 18, .var 19, .var 20, .var 21, .var 22, .var 23]))) (
   .rowc F.slices_Sort___int_int_ false 3 (.var 21) <|
   .ret [.own 1 3 (.var 24)]))

def ir_ball_Near : IR :=
 .call F.grid_Build [.one (.var 0), .agg [.var 1, .var 2, .var 3], .one (.var 4)] [.agg 2, .one] <|
 .prim .not [.var 19] <|
 .ite (.var 20) (
  .ret [.one (.nil), .one (.bol false)]) (
  .call F.rat_Sign [.agg [.var 14, .var 15, .var 16]] [.one] <|
  .prim (.bin .lss) [.var 21, .int .i64 (0)] <|
  .ite (.var 22) (
   .ret [.one (.nil), .one (.bol false)]) (
   .prim (.mk 2) [.var 1, .var 2, .var 3, .var 1, .var 2, .var 3] <|
   .call F.rat_Product [.one (.var 23)] [.agg 3] <|
   .call F.rat_Cmp [.agg [.var 24, .var 25, .var 26], .agg [.var 14, .var 15, .var 16]] [.one] <|
   .prim (.bin .lss) [.var 27, .int .i64 (0)] <|
   .ite (.var 28) (
    .ret [.one (.nil), .one (.bol false)]) (
    .call F.__ball_seeker__near [.ref [.var 17, .var 18, .var 0, .var 1, .var 2, .var 3, .var 14, .var 15, .var 16, .var 4], .agg [.var 5, .var 6, .var 7, .var 8, .var 9, .var 10, .var 11, .var 12, .var 13]] [.own 1 3] <|
    .ret [.one (.var 29), .one (.bol true)])))

def ir_ball_Pairs : IR :=
 .call F.grid_Build [.one (.var 0), .agg [.var 1, .var 2, .var 3], .one (.var 4)] [.agg 2, .one] <|
 .prim .not [.var 10] <|
 .ite (.var 11) (
  .ret [.one (.nil), .one (.bol false)]) (
  .call F.rat_Sign [.agg [.var 5, .var 6, .var 7]] [.one] <|
  .prim (.bin .lss) [.var 12, .int .i64 (0)] <|
  .ite (.var 13) (
   .ret [.one (.nil), .one (.bol false)]) (
   .prim (.mk 2) [.var 1, .var 2, .var 3, .var 1, .var 2, .var 3] <|
   .call F.rat_Product [.one (.var 14)] [.agg 3] <|
   .call F.rat_Cmp [.agg [.var 15, .var 16, .var 17], .agg [.var 5, .var 6, .var 7]] [.one] <|
   .prim (.bin .lss) [.var 18, .int .i64 (0)] <|
   .ite (.var 19) (
    .ret [.one (.nil), .one (.bol false)]) (
    .prim .len [.var 0] <|
    .loop [.var 0, .var 20, .int .i64 (0), .var 8, .var 9, .var 1, .var 2, .var 3, .var 5, .var 6, .var 7, .var 4, .nil] (
     .prim (.bin .lss) [.var 2, .var 1] <|
     .ite (.var 13) (
      .prim (.inb 9) [.var 0, .var 2] <|
      .prim (.get 9 0) [.var 0, .var 2] <|
      .prim (.get 9 1) [.var 0, .var 2] <|
      .prim (.get 9 2) [.var 0, .var 2] <|
      .prim (.get 9 3) [.var 0, .var 2] <|
      .prim (.get 9 4) [.var 0, .var 2] <|
      .prim (.get 9 5) [.var 0, .var 2] <|
      .prim (.get 9 6) [.var 0, .var 2] <|
      .prim (.get 9 7) [.var 0, .var 2] <|
      .prim (.get 9 8) [.var 0, .var 2] <|
      .call F.__ball_seeker__near [.ref [.var 3, .var 4, .var 0, .var 5, .var 6, .var 7, .var 8, .var 9, .var 10, .var 11], .agg [.var 15, .var 16, .var 17, .var 18, .var 19, .var 20, .var 21, .var 22, .var 23]] [.own 1 3] <|
      .prim .len [.var 24] <|
      .loop [.var 2, .var 0, .var 1, .var 25, .int .i64 (0), .var 3, .var 4, .var 5, .var 6, .var 7, .var 8, .var 9, .var 10, .var 11, .var 12, .var 24] (
       .prim (.bin .lss) [.var 4, .var 3] <|
       .ite (.var 16) (
        .prim (.inb 1) [.var 15, .var 4] <|
        .prim (.get 1 0) [.var 15, .var 4] <|
        .prim (.bin .gtr) [.var 18, .var 0] <|
        .ite (.var 19) (
         .prim (.mk 1) [.var 0, .var 18] <|
         .prim (.app 2 16) [.var 14, .var 20] <|
         .prim (.bin .add) [.var 4, .int .i64 (1)] <|
         .jump 1 [.var 0, .var 1, .var 2, .var 3, .var 22, .var 5, .var 6, .var 7, .var 8, .var 9, .var 10, .var 11, .var 12, .var 13, .var 21, .var 15]) (
         .prim (.bin .add) [.var 4, .int .i64 (1)] <|
         .jump 1 [.var 0, .var 1, .var 2, .var 3, .var 20, .var 5, .var 6, .var 7, .var 8, .var 9, .var 10, .var 11, .var 12, .var 13, .var 14, .var 15])) (
        .prim (.bin .add) [.var 0, .int .i64 (1)] <|
        .jump 0 [.var 1, .var 2, .var 17, .var 5, .var 6, .var 7, .var 8, .var 9, .var 10, .var 11, .var 12, .var 13, .var 14]))) (
      .ret [.one (.var 12), .one (.bol true)])))))

def ir_penumbraref22_Same : IR :=
 .prim .len [.var 0] <|
 .prim .len [.var 1] <|
 .prim (.bin .neq) [.var 2, .var 3] <|
 .ite (.var 4) (
  .ret [.one (.bol false)]) (
  .loop [.var 0, .var 1, .int .i64 (0)] (
   .prim .len [.var 0] <|
   .prim (.bin .lss) [.var 2, .var 3] <|
   .ite (.var 4) (
    .prim (.inb 2) [.var 0, .var 2] <|
    .prim (.get 2 0) [.var 0, .var 2] <|
    .prim (.get 2 1) [.var 0, .var 2] <|
    .prim (.inb 2) [.var 1, .var 2] <|
    .prim (.get 2 0) [.var 1, .var 2] <|
    .prim (.get 2 1) [.var 1, .var 2] <|
    .prim (.nes [false, false]) [.var 6, .var 7, .var 9, .var 10] <|
    .ite (.var 11) (
     .ret [.one (.bol false)]) (
     .prim (.bin .add) [.var 2, .int .i64 (1)] <|
     .jump 0 [.var 0, .var 1, .var 12])) (
    .ret [.one (.bol true)])))

theorem tree_vec_Sub : symFunc Go.Proofs.Tryz.prog ⟨fun f => [71, 50, 24].contains f, fun f i => [], fun f i => [], fun f => [23].contains f⟩ 400 F.vec_Sub [.agg 9, .agg 9] = some ir_vec_Sub := by kernel_rfl
theorem tree_vec_Dot : symFunc Go.Proofs.Tryz.prog ⟨fun f => [71, 50, 24].contains f, fun f i => [], fun f i => [], fun f => [23].contains f⟩ 400 F.vec_Dot [.agg 9, .agg 9] = some ir_vec_Dot := by kernel_rfl
theorem tree_ball_Far : symFunc Go.Proofs.Tryz.prog ⟨fun f => [71, 50, 24].contains f, fun f i => [], fun f i => [], fun f => [23].contains f⟩ 400 F.ball_Far [.agg 9, .agg 9] = some ir_ball_Far := by kernel_rfl
theorem tree___ball_seeker__slots : symFunc Go.Proofs.Tryz.prog ⟨fun f => [71, 50, 24].contains f, fun f i => [], fun f i => [], fun f => [23].contains f⟩ 400 F.__ball_seeker__slots [.ref 10 0, .agg 9] = some ir___ball_seeker__slots := by kernel_rfl
theorem tree___ball_seeker__near : symFunc Go.Proofs.Tryz.prog ⟨fun f => [71, 50, 24].contains f, fun f i => if f = 24 ∧ i = 3 then [⟨[(0, .s (.one (.lp 0 0))), (3, .s (.one (.lp 1 0))), (5, .s (.one (.own 2))), (11, .s (.one (.own 3))), (12, .s (.one (.at (.var 0)))), (13, .s (.one (.at (.var 1))))], [], [(0, .box [.at (.var 2), .at (.var 3), .at (.var 4), .at (.var 5), .at (.var 6), .at (.var 7), .at (.var 8), .at (.var 9), .at (.var 10), .at (.var 11)] 0 true), (1, .box [.at (.var 12), .at (.var 13), .at (.var 14), .at (.var 15), .at (.var 16), .at (.var 17), .at (.var 18), .at (.var 19), .at (.var 20)] 27 false), (2, .own (.var 21) 1 3), (3, .own (.var 22) 1 3)], 4, 23⟩] else if f = 24 ∧ i = 6 then [⟨[(0, .s (.one (.lp 0 0))), (3, .s (.one (.lp 1 0))), (5, .s (.one (.own 2))), (8, .s (.one (.at (.var 0)))), (11, .s (.one (.own 3))), (12, .s (.one (.at (.var 1)))), (13, .s (.one (.at (.var 2))))], [], [(0, .box [.at (.var 3), .at (.var 4), .at (.var 5), .at (.var 6), .at (.var 7), .at (.var 8), .at (.var 9), .at (.var 10), .at (.var 11), .at (.var 12)] 0 true), (1, .box [.at (.var 13), .at (.var 14), .at (.var 15), .at (.var 16), .at (.var 17), .at (.var 18), .at (.var 19), .at (.var 20), .at (.var 21)] 27 false), (2, .own (.var 22) 1 3), (3, .own (.var 23) 1 3)], 4, 24⟩] else [], fun f i => [], fun f => [23].contains f⟩ 400 F.__ball_seeker__near [.ref 10 0, .agg 9] = some ir___ball_seeker__near := by kernel_rfl
theorem tree_ball_Near : symFunc Go.Proofs.Tryz.prog ⟨fun f => [71, 50, 24].contains f, fun f i => [], fun f i => [], fun f => [23].contains f⟩ 400 F.ball_Near [.one, .agg 3, .one, .agg 9, .agg 3] = some ir_ball_Near := by kernel_rfl
theorem tree_ball_Pairs : symFunc Go.Proofs.Tryz.prog ⟨fun f => [71, 50, 24].contains f, fun f i => if f = 14 ∧ i = 6 then [⟨[(10, .s (.one (.lp 0 0))), (12, .s (.one (.own 1))), (27, .s (.one (.at (.var 0)))), (28, .s (.one (.at (.var 1)))), (29, .s (.one (.at (.var 2))))], [], [(0, .box [.at (.var 3), .at (.var 4), .at (.var 0), .at (.var 5), .at (.var 6), .at (.var 7), .at (.var 8), .at (.var 9), .at (.var 10), .at (.var 11)] 85 false), (1, .own (.var 12) 2 62)], 2, 13⟩] else if f = 14 ∧ i = 9 then [⟨[(10, .s (.one (.lp 0 0))), (12, .s (.one (.own 1))), (13, .s (.one (.at (.var 0)))), (27, .s (.one (.at (.var 1)))), (28, .s (.one (.at (.var 2)))), (29, .s (.one (.at (.var 0)))), (36, .s (.one (.own 2))), (37, .s (.one (.at (.var 3)))), (38, .s (.one (.at (.var 4))))], [], [(0, .box [.at (.var 5), .at (.var 6), .at (.var 1), .at (.var 7), .at (.var 8), .at (.var 9), .at (.var 10), .at (.var 11), .at (.var 12), .at (.var 13)] 85 false), (1, .own (.var 14) 2 62), (2, .own (.var 15) 1 3)], 3, 16⟩] else [], fun f i => [], fun f => [23].contains f⟩ 400 F.ball_Pairs [.one, .agg 3, .one, .agg 3] = some ir_ball_Pairs := by kernel_rfl
theorem tree_penumbraref22_Same : symFunc Go.Proofs.Tryz.prog ⟨fun f => [71, 50, 24].contains f, fun f i => if f = 16 ∧ i = 4 then [⟨[(0, .s (.one (.at (.var 0)))), (1, .s (.one (.at (.var 1)))), (5, .s (.one (.at (.var 2))))], [], [], 0, 3⟩] else [], fun f i => [], fun f => [23].contains f⟩ 400 F.penumbraref22_Same [.one, .one] = some ir_penumbraref22_Same := by kernel_rfl
end Go.Px
namespace Go.Px.Na
open Go.RowKit
open Go.Proofs.Tryz (prog)
section
variable {P : Program} {As : List (List DV → Prop)} {ρ : List DV} {Q : List AV → Prop}
theorem rowc_step {g : FuncId} {cut : Bool} {E : TypeId} {x : Px.A} {k : IR} {zs zs' : List Int} (hx : x.ev ρ = il zs) (h : RowInts P g cut E zs zs') (hk : IRwp P As (ρ ++ [il zs']) k Q) : IRwp P As ρ (.rowc g cut E x k) Q := by
  rw [IRwp]; exact ⟨zs, zs', hx, h, hk⟩
end
section
variable {L M : Nat} {r s : RR} {x y : Rat}
theorem f_vec_Dot {a b : RV} {u v : V3} (h : NV L a u) (g : NV M b v) (hl : L ≤ 60000000000 ∧ M ≤ 60000000000) : PureCalls prog F.vec_Dot [.agg (gW a.l), .agg (gW b.l)] [.agg (gD [u.dot v])] := by
  replace h := h.mono hl.1
  replace g := g.mono hl.2
  refine symFunc_sound hmix tree_vec_Dot (by kernel_rfl) rfl ?_
  unfold ir_vec_Dot
  simp only [HH, gW, gD, V3.l, M4.l, Fr.l, Sp.l, RV.l, RM.l, RF.l, RS.l]
  refine primS (rlN2 h.x g.x) rfl ?_
  refine cs1 (n_rat_Product_2 (h.x.mono (by decide)) (g.x.mono (by decide)) rfl) ?_
  simp only [HH, gW, gD, V3.l, M4.l, Fr.l, Sp.l, RV.l, RM.l, RF.l, RS.l]
  have m1 := Num.of (Sm.mul h.x.sm g.x.sm)
  refine primS (rlN2 h.y g.y) rfl ?_
  refine cs1 (n_rat_Product_2 (h.y.mono (by decide)) (g.y.mono (by decide)) rfl) ?_
  simp only [HH, gW, gD, V3.l, M4.l, Fr.l, Sp.l, RV.l, RM.l, RF.l, RS.l]
  have m2 := Num.of (Sm.mul h.y.sm g.y.sm)
  refine primS (rlN2 h.z g.z) rfl ?_
  refine cs1 (n_rat_Product_2 (h.z.mono (by decide)) (g.z.mono (by decide)) rfl) ?_
  simp only [HH, gW, gD, V3.l, M4.l, Fr.l, Sp.l, RV.l, RM.l, RF.l, RS.l]
  have m3 := Num.of (Sm.mul h.z.sm g.z.sm)
  refine primS (rlN3 m1 m2 m3) rfl ?_
  refine cs1 (n_rat_Sum_3 (m1.mono (by decide)) (m2.mono (by decide)) (m3.mono (by decide)) rfl) ?_
  simp only [HH, gW, gD, V3.l, M4.l, Fr.l, Sp.l, RV.l, RM.l, RF.l, RS.l]
  have m4 := Num.of (Sm.add (Sm.add m1.sm m2.sm) m3.sm)
  exact ret_step rfl
theorem f_vec_Sub {a b : RV} {u v : V3} (h : NV L a u) (g : NV M b v) (hl : L ≤ 60000000000 ∧ M ≤ 60000000000) : PureCalls prog F.vec_Sub [.agg (gW a.l), .agg (gW b.l)] [.agg (gD [(u.sub v).x, (u.sub v).y, (u.sub v).z])] := by
  replace h := h.mono hl.1
  replace g := g.mono hl.2
  refine symFunc_sound hmix tree_vec_Sub (by kernel_rfl) rfl ?_
  unfold ir_vec_Sub
  simp only [HH, gW, gD, V3.l, M4.l, Fr.l, Sp.l, RV.l, RM.l, RF.l, RS.l]
  refine call_step (f_rat_Sub h.x g.x (by decide)) rfl ?_
  simp only [HH, gW, gD, V3.l, M4.l, Fr.l, Sp.l, RV.l, RM.l, RF.l, RS.l]
  have m1 := Num.of (Sm.sub h.x.sm g.x.sm)
  refine call_step (f_rat_Sub h.y g.y (by decide)) rfl ?_
  simp only [HH, gW, gD, V3.l, M4.l, Fr.l, Sp.l, RV.l, RM.l, RF.l, RS.l]
  have m2 := Num.of (Sm.sub h.y.sm g.y.sm)
  refine call_step (f_rat_Sub h.z g.z (by decide)) rfl ?_
  simp only [HH, gW, gD, V3.l, M4.l, Fr.l, Sp.l, RV.l, RM.l, RF.l, RS.l]
  have m3 := Num.of (Sm.sub h.z.sm g.z.sm)
  exact ret_step rfl
theorem f_ball_Far {a b : RV} {u v : V3} (h : NV L a u) (g : NV M b v) (hl : L ≤ 10000000000 ∧ M ≤ 10000000000) : PureCalls prog F.ball_Far [.agg (gW a.l), .agg (gW b.l)] [.agg (gD [far u v])] := by
  replace h := h.mono hl.1
  replace g := g.mono hl.2
  refine symFunc_sound hmix tree_ball_Far (by kernel_rfl) rfl ?_
  unfold ir_ball_Far
  simp only [HH, gW, gD, V3.l, M4.l, Fr.l, Sp.l, RV.l, RM.l, RF.l, RS.l]
  refine call_step (f_vec_Sub g h (by decide)) rfl ?_
  simp only [HH, gW, gD, V3.l, M4.l, Fr.l, Sp.l, RV.l, RM.l, RF.l, RS.l]
  have m1 := NV.of (SV.sub g.sm h.sm)
  refine call_step (f_vec_Dot m1 m1 (by decide)) rfl ?_
  simp only [HH, gW, gD, V3.l, M4.l, Fr.l, Sp.l, RV.l, RM.l, RF.l, RS.l]
  have m2 := Num.of (SV.dot m1.sm m1.sm)
  exact ret_step rfl
theorem Sm_far {u v : V3} (h : SV L u) (g : SV M v) : Sm (6 * (M + L + 1) + 2) (far u v) := ((g.sub h).dot (g.sub h)).mono (by omega)
theorem d_cmpQ_le {x y : Rat} : Prim.den (.bin .leq) [.int .i64 (cmpQ x y), .int .i64 0] = some (.bool (decide (x ≤ y))) := by
  rw [d_leq, show decide (cmpQ x y ≤ 0) = decide (x ≤ y) from decide_eq_decide.2 (by have := cq_gt (x := x) (y := y); rw [← Rat.not_lt, ← this]; omega)]
theorem d_cmpQ_lt {x y : Rat} : Prim.den (.bin .lss) [.int .i64 (cmpQ x y), .int .i64 0] = some (.bool (decide (x < y))) := by
  rw [d_lss, show decide (cmpQ x y < 0) = decide (x < y) from decide_eq_decide.2 cq_lt]
end
section
variable {L L2 L3 M : Nat} {rsd rr2 : RR} {s r2 : Rat} {n : Int} {rp : RV} {p : V3} {rs : List RV} {ps : List V3}
theorem f_Slot_t (c : gmay s n) (h : NV L rp p) (g : Num M rsd s) (hl : L ≤ 60000000000 ∧ M ≤ 60000000000) : PureCalls prog F.grid_Slot [.agg (gW rp.l), .agg (gW [rsd]), .one (.int .i64 n)] [.one (.int .i64 (slot p s n)), .one (.bool true)] := by
  have k := f_grid_Slot (n := n) h g hl
  rw [if_pos c, decide_eq_true c] at k; exact k
/-- The first ones of the slots around. -/
def st27 (p : V3) (s : Rat) (n : Int) (k : Nat) : List Int := (nbs p s n).take k
theorem st27_all : st27 p s n 27 = nbs p s n := rfl
theorem nbs_len : (nbs p s n).length = 27 := rfl
/-- A seeker's cells. -/
def sk (H N : List Int) (rs : List RV) (rsd rr2 : RR) (n : Int) : List DV := [il H, il N, vl rs, .bool rsd.neg, nl rsd.num, nl rsd.den, .bool rr2.neg, nl rr2.num, nl rr2.den, .int .i64 n]
def slN (p : V3) (s : Rat) (n : Int) : List Int := cpt (msort (nbs p s n))
def ow (zs : List Int) : AV := .own 1 3 zs.length (zs.map (DV.int .i64))
theorem f_slots (c : gmay s n) {d0 d1 d2 d6 d7 d8 : DV} (h : NV L rp p) (g : Num M rsd s) (hl : L ≤ 8000000000 ∧ M ≤ 8000000000) :
    PureCalls prog F.__ball_seeker__slots [.ref [d0, d1, d2, .bool rsd.neg, nl rsd.num, nl rsd.den, d6, d7, d8, .int .i64 n], .agg (gW rp.l)] [ow (slN p s n)] := by
  replace h := h.mono hl.1
  replace g := g.mono hl.2
  refine symFunc_sound hmix tree___ball_seeker__slots (by kernel_rfl) rfl ?_
  unfold ir___ball_seeker__slots
  simp only [flatAll, List.flatMap_cons, List.flatMap_nil, AV.flat, List.cons_append, List.nil_append, List.append_nil, gW, RV.l]
  refine cs1 (n_rat_Neg (g.mono (by decide)) rfl) ?_
  simp only [HH, gW, gD, V3.l, M4.l, Fr.l, Sp.l, RV.l, RM.l, RF.l, RS.l]
  have mN : Num 8000000000 (cr (-s)) (-s) := Num.of g.sm.neg
  refine cs1 (n_rat_Of (k0 := 0) 0 1 (by decide) (by decide) (by decide) (by decide) (by decide +kernel)) ?_
  simp only [HH, gW, gD, V3.l, M4.l, Fr.l, Sp.l, RV.l, RM.l, RF.l, RS.l]
  have mZ : Num 8000000000 (cr (0 : Rat)) 0 := (Num.of Sm0).mono (by decide)
  refine cs1 (n_rat_Read (g.mono (by decide))) ?_
  simp only [HH, gW, gD, V3.l, M4.l, Fr.l, Sp.l, RV.l, RM.l, RF.l, RS.l]
  have mS : Num 8000000000 (cr s) s := Num.of g.sm
  refine primS (rlV2 h (NV.mk3 mN mN mN)) rfl ?_
  refine cs3 (f_vec_Sum_2 h (NV.mk3 mN mN mN) (by decide)) ?_
  simp only [HH, gW, gD, V3.l, M4.l, Fr.l, Sp.l, RV.l, RM.l, RF.l, RS.l]
  refine call_step (f_Slot_t (p := p.add ⟨-s, -s, -s⟩) c (NV.of (SV.add h.sm (NV.mk3 mN mN mN).sm)) g (by decide)) rfl ?_
  simp only [HH, gW, gD, V3.l, M4.l, Fr.l, Sp.l, RV.l, RM.l, RF.l, RS.l]
  refine primS (il [slot (p.add ⟨-s, -s, -s⟩) s n]) rfl ?_
  refine primS (il (st27 p s n 1)) rfl ?_
  simp only [List.cons_append, List.nil_append]
  refine primS (rlV2 h (NV.mk3 mN mN mZ)) rfl ?_
  refine cs3 (f_vec_Sum_2 h (NV.mk3 mN mN mZ) (by decide)) ?_
  simp only [HH, gW, gD, V3.l, M4.l, Fr.l, Sp.l, RV.l, RM.l, RF.l, RS.l]
  refine call_step (f_Slot_t (p := p.add ⟨-s, -s, 0⟩) c (NV.of (SV.add h.sm (NV.mk3 mN mN mZ).sm)) g (by decide)) rfl ?_
  simp only [HH, gW, gD, V3.l, M4.l, Fr.l, Sp.l, RV.l, RM.l, RF.l, RS.l]
  refine primS (il [slot (p.add ⟨-s, -s, 0⟩) s n]) rfl ?_
  refine primS (il (st27 p s n 2)) rfl ?_
  simp only [List.cons_append, List.nil_append]
  refine primS (rlV2 h (NV.mk3 mN mN mS)) rfl ?_
  refine cs3 (f_vec_Sum_2 h (NV.mk3 mN mN mS) (by decide)) ?_
  simp only [HH, gW, gD, V3.l, M4.l, Fr.l, Sp.l, RV.l, RM.l, RF.l, RS.l]
  refine call_step (f_Slot_t (p := p.add ⟨-s, -s, s⟩) c (NV.of (SV.add h.sm (NV.mk3 mN mN mS).sm)) g (by decide)) rfl ?_
  simp only [HH, gW, gD, V3.l, M4.l, Fr.l, Sp.l, RV.l, RM.l, RF.l, RS.l]
  refine primS (il [slot (p.add ⟨-s, -s, s⟩) s n]) rfl ?_
  refine primS (il (st27 p s n 3)) rfl ?_
  simp only [List.cons_append, List.nil_append]
  refine primS (rlV2 h (NV.mk3 mN mZ mN)) rfl ?_
  refine cs3 (f_vec_Sum_2 h (NV.mk3 mN mZ mN) (by decide)) ?_
  simp only [HH, gW, gD, V3.l, M4.l, Fr.l, Sp.l, RV.l, RM.l, RF.l, RS.l]
  refine call_step (f_Slot_t (p := p.add ⟨-s, 0, -s⟩) c (NV.of (SV.add h.sm (NV.mk3 mN mZ mN).sm)) g (by decide)) rfl ?_
  simp only [HH, gW, gD, V3.l, M4.l, Fr.l, Sp.l, RV.l, RM.l, RF.l, RS.l]
  refine primS (il [slot (p.add ⟨-s, 0, -s⟩) s n]) rfl ?_
  refine primS (il (st27 p s n 4)) rfl ?_
  simp only [List.cons_append, List.nil_append]
  refine primS (rlV2 h (NV.mk3 mN mZ mZ)) rfl ?_
  refine cs3 (f_vec_Sum_2 h (NV.mk3 mN mZ mZ) (by decide)) ?_
  simp only [HH, gW, gD, V3.l, M4.l, Fr.l, Sp.l, RV.l, RM.l, RF.l, RS.l]
  refine call_step (f_Slot_t (p := p.add ⟨-s, 0, 0⟩) c (NV.of (SV.add h.sm (NV.mk3 mN mZ mZ).sm)) g (by decide)) rfl ?_
  simp only [HH, gW, gD, V3.l, M4.l, Fr.l, Sp.l, RV.l, RM.l, RF.l, RS.l]
  refine primS (il [slot (p.add ⟨-s, 0, 0⟩) s n]) rfl ?_
  refine primS (il (st27 p s n 5)) rfl ?_
  simp only [List.cons_append, List.nil_append]
  refine primS (rlV2 h (NV.mk3 mN mZ mS)) rfl ?_
  refine cs3 (f_vec_Sum_2 h (NV.mk3 mN mZ mS) (by decide)) ?_
  simp only [HH, gW, gD, V3.l, M4.l, Fr.l, Sp.l, RV.l, RM.l, RF.l, RS.l]
  refine call_step (f_Slot_t (p := p.add ⟨-s, 0, s⟩) c (NV.of (SV.add h.sm (NV.mk3 mN mZ mS).sm)) g (by decide)) rfl ?_
  simp only [HH, gW, gD, V3.l, M4.l, Fr.l, Sp.l, RV.l, RM.l, RF.l, RS.l]
  refine primS (il [slot (p.add ⟨-s, 0, s⟩) s n]) rfl ?_
  refine primS (il (st27 p s n 6)) rfl ?_
  simp only [List.cons_append, List.nil_append]
  refine primS (rlV2 h (NV.mk3 mN mS mN)) rfl ?_
  refine cs3 (f_vec_Sum_2 h (NV.mk3 mN mS mN) (by decide)) ?_
  simp only [HH, gW, gD, V3.l, M4.l, Fr.l, Sp.l, RV.l, RM.l, RF.l, RS.l]
  refine call_step (f_Slot_t (p := p.add ⟨-s, s, -s⟩) c (NV.of (SV.add h.sm (NV.mk3 mN mS mN).sm)) g (by decide)) rfl ?_
  simp only [HH, gW, gD, V3.l, M4.l, Fr.l, Sp.l, RV.l, RM.l, RF.l, RS.l]
  refine primS (il [slot (p.add ⟨-s, s, -s⟩) s n]) rfl ?_
  refine primS (il (st27 p s n 7)) rfl ?_
  simp only [List.cons_append, List.nil_append]
  refine primS (rlV2 h (NV.mk3 mN mS mZ)) rfl ?_
  refine cs3 (f_vec_Sum_2 h (NV.mk3 mN mS mZ) (by decide)) ?_
  simp only [HH, gW, gD, V3.l, M4.l, Fr.l, Sp.l, RV.l, RM.l, RF.l, RS.l]
  refine call_step (f_Slot_t (p := p.add ⟨-s, s, 0⟩) c (NV.of (SV.add h.sm (NV.mk3 mN mS mZ).sm)) g (by decide)) rfl ?_
  simp only [HH, gW, gD, V3.l, M4.l, Fr.l, Sp.l, RV.l, RM.l, RF.l, RS.l]
  refine primS (il [slot (p.add ⟨-s, s, 0⟩) s n]) rfl ?_
  refine primS (il (st27 p s n 8)) rfl ?_
  simp only [List.cons_append, List.nil_append]
  refine primS (rlV2 h (NV.mk3 mN mS mS)) rfl ?_
  refine cs3 (f_vec_Sum_2 h (NV.mk3 mN mS mS) (by decide)) ?_
  simp only [HH, gW, gD, V3.l, M4.l, Fr.l, Sp.l, RV.l, RM.l, RF.l, RS.l]
  refine call_step (f_Slot_t (p := p.add ⟨-s, s, s⟩) c (NV.of (SV.add h.sm (NV.mk3 mN mS mS).sm)) g (by decide)) rfl ?_
  simp only [HH, gW, gD, V3.l, M4.l, Fr.l, Sp.l, RV.l, RM.l, RF.l, RS.l]
  refine primS (il [slot (p.add ⟨-s, s, s⟩) s n]) rfl ?_
  refine primS (il (st27 p s n 9)) rfl ?_
  simp only [List.cons_append, List.nil_append]
  refine primS (rlV2 h (NV.mk3 mZ mN mN)) rfl ?_
  refine cs3 (f_vec_Sum_2 h (NV.mk3 mZ mN mN) (by decide)) ?_
  simp only [HH, gW, gD, V3.l, M4.l, Fr.l, Sp.l, RV.l, RM.l, RF.l, RS.l]
  refine call_step (f_Slot_t (p := p.add ⟨0, -s, -s⟩) c (NV.of (SV.add h.sm (NV.mk3 mZ mN mN).sm)) g (by decide)) rfl ?_
  simp only [HH, gW, gD, V3.l, M4.l, Fr.l, Sp.l, RV.l, RM.l, RF.l, RS.l]
  refine primS (il [slot (p.add ⟨0, -s, -s⟩) s n]) rfl ?_
  refine primS (il (st27 p s n 10)) rfl ?_
  simp only [List.cons_append, List.nil_append]
  refine primS (rlV2 h (NV.mk3 mZ mN mZ)) rfl ?_
  refine cs3 (f_vec_Sum_2 h (NV.mk3 mZ mN mZ) (by decide)) ?_
  simp only [HH, gW, gD, V3.l, M4.l, Fr.l, Sp.l, RV.l, RM.l, RF.l, RS.l]
  refine call_step (f_Slot_t (p := p.add ⟨0, -s, 0⟩) c (NV.of (SV.add h.sm (NV.mk3 mZ mN mZ).sm)) g (by decide)) rfl ?_
  simp only [HH, gW, gD, V3.l, M4.l, Fr.l, Sp.l, RV.l, RM.l, RF.l, RS.l]
  refine primS (il [slot (p.add ⟨0, -s, 0⟩) s n]) rfl ?_
  refine primS (il (st27 p s n 11)) rfl ?_
  simp only [List.cons_append, List.nil_append]
  refine primS (rlV2 h (NV.mk3 mZ mN mS)) rfl ?_
  refine cs3 (f_vec_Sum_2 h (NV.mk3 mZ mN mS) (by decide)) ?_
  simp only [HH, gW, gD, V3.l, M4.l, Fr.l, Sp.l, RV.l, RM.l, RF.l, RS.l]
  refine call_step (f_Slot_t (p := p.add ⟨0, -s, s⟩) c (NV.of (SV.add h.sm (NV.mk3 mZ mN mS).sm)) g (by decide)) rfl ?_
  simp only [HH, gW, gD, V3.l, M4.l, Fr.l, Sp.l, RV.l, RM.l, RF.l, RS.l]
  refine primS (il [slot (p.add ⟨0, -s, s⟩) s n]) rfl ?_
  refine primS (il (st27 p s n 12)) rfl ?_
  simp only [List.cons_append, List.nil_append]
  refine primS (rlV2 h (NV.mk3 mZ mZ mN)) rfl ?_
  refine cs3 (f_vec_Sum_2 h (NV.mk3 mZ mZ mN) (by decide)) ?_
  simp only [HH, gW, gD, V3.l, M4.l, Fr.l, Sp.l, RV.l, RM.l, RF.l, RS.l]
  refine call_step (f_Slot_t (p := p.add ⟨0, 0, -s⟩) c (NV.of (SV.add h.sm (NV.mk3 mZ mZ mN).sm)) g (by decide)) rfl ?_
  simp only [HH, gW, gD, V3.l, M4.l, Fr.l, Sp.l, RV.l, RM.l, RF.l, RS.l]
  refine primS (il [slot (p.add ⟨0, 0, -s⟩) s n]) rfl ?_
  refine primS (il (st27 p s n 13)) rfl ?_
  simp only [List.cons_append, List.nil_append]
  refine primS (rlV2 h (NV.mk3 mZ mZ mZ)) rfl ?_
  refine cs3 (f_vec_Sum_2 h (NV.mk3 mZ mZ mZ) (by decide)) ?_
  simp only [HH, gW, gD, V3.l, M4.l, Fr.l, Sp.l, RV.l, RM.l, RF.l, RS.l]
  refine call_step (f_Slot_t (p := p.add ⟨0, 0, 0⟩) c (NV.of (SV.add h.sm (NV.mk3 mZ mZ mZ).sm)) g (by decide)) rfl ?_
  simp only [HH, gW, gD, V3.l, M4.l, Fr.l, Sp.l, RV.l, RM.l, RF.l, RS.l]
  refine primS (il [slot (p.add ⟨0, 0, 0⟩) s n]) rfl ?_
  refine primS (il (st27 p s n 14)) rfl ?_
  simp only [List.cons_append, List.nil_append]
  refine primS (rlV2 h (NV.mk3 mZ mZ mS)) rfl ?_
  refine cs3 (f_vec_Sum_2 h (NV.mk3 mZ mZ mS) (by decide)) ?_
  simp only [HH, gW, gD, V3.l, M4.l, Fr.l, Sp.l, RV.l, RM.l, RF.l, RS.l]
  refine call_step (f_Slot_t (p := p.add ⟨0, 0, s⟩) c (NV.of (SV.add h.sm (NV.mk3 mZ mZ mS).sm)) g (by decide)) rfl ?_
  simp only [HH, gW, gD, V3.l, M4.l, Fr.l, Sp.l, RV.l, RM.l, RF.l, RS.l]
  refine primS (il [slot (p.add ⟨0, 0, s⟩) s n]) rfl ?_
  refine primS (il (st27 p s n 15)) rfl ?_
  simp only [List.cons_append, List.nil_append]
  refine primS (rlV2 h (NV.mk3 mZ mS mN)) rfl ?_
  refine cs3 (f_vec_Sum_2 h (NV.mk3 mZ mS mN) (by decide)) ?_
  simp only [HH, gW, gD, V3.l, M4.l, Fr.l, Sp.l, RV.l, RM.l, RF.l, RS.l]
  refine call_step (f_Slot_t (p := p.add ⟨0, s, -s⟩) c (NV.of (SV.add h.sm (NV.mk3 mZ mS mN).sm)) g (by decide)) rfl ?_
  simp only [HH, gW, gD, V3.l, M4.l, Fr.l, Sp.l, RV.l, RM.l, RF.l, RS.l]
  refine primS (il [slot (p.add ⟨0, s, -s⟩) s n]) rfl ?_
  refine primS (il (st27 p s n 16)) rfl ?_
  simp only [List.cons_append, List.nil_append]
  refine primS (rlV2 h (NV.mk3 mZ mS mZ)) rfl ?_
  refine cs3 (f_vec_Sum_2 h (NV.mk3 mZ mS mZ) (by decide)) ?_
  simp only [HH, gW, gD, V3.l, M4.l, Fr.l, Sp.l, RV.l, RM.l, RF.l, RS.l]
  refine call_step (f_Slot_t (p := p.add ⟨0, s, 0⟩) c (NV.of (SV.add h.sm (NV.mk3 mZ mS mZ).sm)) g (by decide)) rfl ?_
  simp only [HH, gW, gD, V3.l, M4.l, Fr.l, Sp.l, RV.l, RM.l, RF.l, RS.l]
  refine primS (il [slot (p.add ⟨0, s, 0⟩) s n]) rfl ?_
  refine primS (il (st27 p s n 17)) rfl ?_
  simp only [List.cons_append, List.nil_append]
  refine primS (rlV2 h (NV.mk3 mZ mS mS)) rfl ?_
  refine cs3 (f_vec_Sum_2 h (NV.mk3 mZ mS mS) (by decide)) ?_
  simp only [HH, gW, gD, V3.l, M4.l, Fr.l, Sp.l, RV.l, RM.l, RF.l, RS.l]
  refine call_step (f_Slot_t (p := p.add ⟨0, s, s⟩) c (NV.of (SV.add h.sm (NV.mk3 mZ mS mS).sm)) g (by decide)) rfl ?_
  simp only [HH, gW, gD, V3.l, M4.l, Fr.l, Sp.l, RV.l, RM.l, RF.l, RS.l]
  refine primS (il [slot (p.add ⟨0, s, s⟩) s n]) rfl ?_
  refine primS (il (st27 p s n 18)) rfl ?_
  simp only [List.cons_append, List.nil_append]
  refine primS (rlV2 h (NV.mk3 mS mN mN)) rfl ?_
  refine cs3 (f_vec_Sum_2 h (NV.mk3 mS mN mN) (by decide)) ?_
  simp only [HH, gW, gD, V3.l, M4.l, Fr.l, Sp.l, RV.l, RM.l, RF.l, RS.l]
  refine call_step (f_Slot_t (p := p.add ⟨s, -s, -s⟩) c (NV.of (SV.add h.sm (NV.mk3 mS mN mN).sm)) g (by decide)) rfl ?_
  simp only [HH, gW, gD, V3.l, M4.l, Fr.l, Sp.l, RV.l, RM.l, RF.l, RS.l]
  refine primS (il [slot (p.add ⟨s, -s, -s⟩) s n]) rfl ?_
  refine primS (il (st27 p s n 19)) rfl ?_
  simp only [List.cons_append, List.nil_append]
  refine primS (rlV2 h (NV.mk3 mS mN mZ)) rfl ?_
  refine cs3 (f_vec_Sum_2 h (NV.mk3 mS mN mZ) (by decide)) ?_
  simp only [HH, gW, gD, V3.l, M4.l, Fr.l, Sp.l, RV.l, RM.l, RF.l, RS.l]
  refine call_step (f_Slot_t (p := p.add ⟨s, -s, 0⟩) c (NV.of (SV.add h.sm (NV.mk3 mS mN mZ).sm)) g (by decide)) rfl ?_
  simp only [HH, gW, gD, V3.l, M4.l, Fr.l, Sp.l, RV.l, RM.l, RF.l, RS.l]
  refine primS (il [slot (p.add ⟨s, -s, 0⟩) s n]) rfl ?_
  refine primS (il (st27 p s n 20)) rfl ?_
  simp only [List.cons_append, List.nil_append]
  refine primS (rlV2 h (NV.mk3 mS mN mS)) rfl ?_
  refine cs3 (f_vec_Sum_2 h (NV.mk3 mS mN mS) (by decide)) ?_
  simp only [HH, gW, gD, V3.l, M4.l, Fr.l, Sp.l, RV.l, RM.l, RF.l, RS.l]
  refine call_step (f_Slot_t (p := p.add ⟨s, -s, s⟩) c (NV.of (SV.add h.sm (NV.mk3 mS mN mS).sm)) g (by decide)) rfl ?_
  simp only [HH, gW, gD, V3.l, M4.l, Fr.l, Sp.l, RV.l, RM.l, RF.l, RS.l]
  refine primS (il [slot (p.add ⟨s, -s, s⟩) s n]) rfl ?_
  refine primS (il (st27 p s n 21)) rfl ?_
  simp only [List.cons_append, List.nil_append]
  refine primS (rlV2 h (NV.mk3 mS mZ mN)) rfl ?_
  refine cs3 (f_vec_Sum_2 h (NV.mk3 mS mZ mN) (by decide)) ?_
  simp only [HH, gW, gD, V3.l, M4.l, Fr.l, Sp.l, RV.l, RM.l, RF.l, RS.l]
  refine call_step (f_Slot_t (p := p.add ⟨s, 0, -s⟩) c (NV.of (SV.add h.sm (NV.mk3 mS mZ mN).sm)) g (by decide)) rfl ?_
  simp only [HH, gW, gD, V3.l, M4.l, Fr.l, Sp.l, RV.l, RM.l, RF.l, RS.l]
  refine primS (il [slot (p.add ⟨s, 0, -s⟩) s n]) rfl ?_
  refine primS (il (st27 p s n 22)) rfl ?_
  simp only [List.cons_append, List.nil_append]
  refine primS (rlV2 h (NV.mk3 mS mZ mZ)) rfl ?_
  refine cs3 (f_vec_Sum_2 h (NV.mk3 mS mZ mZ) (by decide)) ?_
  simp only [HH, gW, gD, V3.l, M4.l, Fr.l, Sp.l, RV.l, RM.l, RF.l, RS.l]
  refine call_step (f_Slot_t (p := p.add ⟨s, 0, 0⟩) c (NV.of (SV.add h.sm (NV.mk3 mS mZ mZ).sm)) g (by decide)) rfl ?_
  simp only [HH, gW, gD, V3.l, M4.l, Fr.l, Sp.l, RV.l, RM.l, RF.l, RS.l]
  refine primS (il [slot (p.add ⟨s, 0, 0⟩) s n]) rfl ?_
  refine primS (il (st27 p s n 23)) rfl ?_
  simp only [List.cons_append, List.nil_append]
  refine primS (rlV2 h (NV.mk3 mS mZ mS)) rfl ?_
  refine cs3 (f_vec_Sum_2 h (NV.mk3 mS mZ mS) (by decide)) ?_
  simp only [HH, gW, gD, V3.l, M4.l, Fr.l, Sp.l, RV.l, RM.l, RF.l, RS.l]
  refine call_step (f_Slot_t (p := p.add ⟨s, 0, s⟩) c (NV.of (SV.add h.sm (NV.mk3 mS mZ mS).sm)) g (by decide)) rfl ?_
  simp only [HH, gW, gD, V3.l, M4.l, Fr.l, Sp.l, RV.l, RM.l, RF.l, RS.l]
  refine primS (il [slot (p.add ⟨s, 0, s⟩) s n]) rfl ?_
  refine primS (il (st27 p s n 24)) rfl ?_
  simp only [List.cons_append, List.nil_append]
  refine primS (rlV2 h (NV.mk3 mS mS mN)) rfl ?_
  refine cs3 (f_vec_Sum_2 h (NV.mk3 mS mS mN) (by decide)) ?_
  simp only [HH, gW, gD, V3.l, M4.l, Fr.l, Sp.l, RV.l, RM.l, RF.l, RS.l]
  refine call_step (f_Slot_t (p := p.add ⟨s, s, -s⟩) c (NV.of (SV.add h.sm (NV.mk3 mS mS mN).sm)) g (by decide)) rfl ?_
  simp only [HH, gW, gD, V3.l, M4.l, Fr.l, Sp.l, RV.l, RM.l, RF.l, RS.l]
  refine primS (il [slot (p.add ⟨s, s, -s⟩) s n]) rfl ?_
  refine primS (il (st27 p s n 25)) rfl ?_
  simp only [List.cons_append, List.nil_append]
  refine primS (rlV2 h (NV.mk3 mS mS mZ)) rfl ?_
  refine cs3 (f_vec_Sum_2 h (NV.mk3 mS mS mZ) (by decide)) ?_
  simp only [HH, gW, gD, V3.l, M4.l, Fr.l, Sp.l, RV.l, RM.l, RF.l, RS.l]
  refine call_step (f_Slot_t (p := p.add ⟨s, s, 0⟩) c (NV.of (SV.add h.sm (NV.mk3 mS mS mZ).sm)) g (by decide)) rfl ?_
  simp only [HH, gW, gD, V3.l, M4.l, Fr.l, Sp.l, RV.l, RM.l, RF.l, RS.l]
  refine primS (il [slot (p.add ⟨s, s, 0⟩) s n]) rfl ?_
  refine primS (il (st27 p s n 26)) rfl ?_
  simp only [List.cons_append, List.nil_append]
  refine primS (rlV2 h (NV.mk3 mS mS mS)) rfl ?_
  refine cs3 (f_vec_Sum_2 h (NV.mk3 mS mS mS) (by decide)) ?_
  simp only [HH, gW, gD, V3.l, M4.l, Fr.l, Sp.l, RV.l, RM.l, RF.l, RS.l]
  refine call_step (f_Slot_t (p := p.add ⟨s, s, s⟩) c (NV.of (SV.add h.sm (NV.mk3 mS mS mS).sm)) g (by decide)) rfl ?_
  simp only [HH, gW, gD, V3.l, M4.l, Fr.l, Sp.l, RV.l, RM.l, RF.l, RS.l]
  refine primS (il [slot (p.add ⟨s, s, s⟩) s n]) rfl ?_
  refine primS (il (st27 p s n 27)) rfl ?_
  simp only [List.cons_append, List.nil_append]
  refine rowc_step (zs := nbs p s n) rfl (t_sort (by rw [nbs_len]; decide)) ?_
  simp only [List.cons_append, List.nil_append]
  refine rowc_step (zs := msort (nbs p s n)) rfl (t_compact (by rw [msort_len, nbs_len]; decide)) ?_
  simp only [List.cons_append, List.nil_append]
  exact ret_step rfl
end
end Go.Px.Na
