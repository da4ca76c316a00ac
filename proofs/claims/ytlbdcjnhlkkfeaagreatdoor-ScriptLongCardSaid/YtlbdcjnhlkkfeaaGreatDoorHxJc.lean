/- The functions that the call reaches, and what they name: by computation, run by run. -/
import Derived.Test.YtlbdcjnhlkkfeaaGreatDoorRows
import Derived.KernelRfl
namespace Go.Proofs.YtlbdcjnhlkkfeaaGreatDoor.scriptLong
def rm0 : List FuncId := [3, 4, 5, 7, 19, 41, 87, 185, 188, 89, 319, 186, 88, 187, 189, 190, 191, 192, 320, 193, 194, 321, 42, 43, 44, 90, 91, 195, 92, 93, 96, 95, 196, 322, 198, 324, 446, 447, 97, 201, 203, 200, 197, 323, 199, 94, 202, 204, 325, 448, 450, 537, 572, 583, 585, 588, 586, 573, 449, 536, 451, 20, 45, 98, 99, 101, 205, 206, 326, 100, 102, 207, 327, 209, 208]
def rm1 : List FuncId := [210, 211, 103, 212, 328, 370, 453, 452, 256, 372, 371, 104, 213, 214, 105, 215, 329, 455, 539, 540, 553, 221, 541, 574, 576, 454, 538, 575, 584, 587, 456, 457, 458, 216, 330, 459, 542, 46, 106, 107, 217, 331, 460, 543, 461, 462, 332, 463, 544, 108, 333, 464, 465, 466, 469, 109, 545, 548, 577, 578, 546, 547, 467, 549, 550, 468, 334, 335, 336, 8, 21, 47, 110, 218, 337]
def rm2 : List FuncId := [470, 338, 471, 472, 551, 552, 219, 339, 220, 111, 222, 112, 113, 223, 340, 25, 52, 117, 228, 229, 348, 118, 230, 119, 231, 349, 481, 350, 351, 352, 482, 341, 342, 473, 474, 160, 177, 224, 343, 475, 344, 476, 477, 478, 479, 480, 345, 225, 346, 161, 178, 48, 50, 114, 49, 51, 115, 116, 226, 227, 347, 248, 238, 358, 317, 22, 23, 24, 9, 10, 27, 26, 53, 29, 54]
def rm3 : List FuncId := [120, 232, 121, 28, 12, 32, 56, 57, 39, 58, 68, 123, 125, 124, 15, 127, 128, 126, 237, 182, 59, 129, 239, 133, 240, 130, 241, 131, 242, 132, 243, 244, 245, 246, 247, 359, 360, 249, 361, 485, 362, 363, 250, 364, 486, 122, 233, 234, 354, 353, 355, 235, 236, 356, 357, 483, 484, 487, 554, 365, 251, 252, 366, 367, 33, 61, 82, 137, 261, 382, 260, 374, 375, 488, 376]
def rm4 : List FuncId := [489, 490, 377, 491, 492, 555, 378, 379, 380, 381, 138, 263, 383, 262, 60, 73, 174, 134, 253, 369, 368, 254, 135, 255, 140, 270, 136, 257, 373, 258, 259, 62, 139, 264, 265, 266, 384, 300, 267, 385, 269, 268, 386, 141, 271, 272, 273, 387, 274, 275, 276, 142, 143, 277, 145, 144, 278, 388, 389, 391, 390, 279, 393, 392, 394, 493, 495, 494, 496, 501, 395, 497, 556, 579, 77]
def rm5 : List FuncId := [181, 505, 557, 500, 498, 499, 502, 503, 504, 558, 146, 280, 281, 396, 506, 507, 559, 508, 509, 560, 561, 580, 510, 511, 512, 513, 282, 284, 399, 400, 283, 294, 397, 150, 299, 398, 514, 515, 516, 517, 404, 147, 286, 401, 285, 287, 288, 402, 403, 406, 405, 518, 289, 290, 407, 291, 292, 408, 293, 409, 519, 410, 63, 148, 295, 411, 520, 562, 581, 582, 530, 569, 570, 563, 564]
def rm6 : List FuncId := [565, 296, 412, 521, 566, 567, 297, 413, 414, 64, 149, 298, 415, 152, 417, 416, 301, 151, 153, 65, 154, 155, 302, 418, 522, 523, 420, 419, 306, 303, 421, 308, 305, 307, 423, 422, 304, 156, 157, 309, 424, 313, 524, 525, 66, 158, 310, 425, 431, 426, 526, 427, 428, 527, 528, 568, 429, 430, 432, 433, 67, 35, 74, 176, 78, 175, 75, 159, 162, 34, 69, 163, 70, 164, 166]
def rm7 : List FuncId := [312, 165, 311, 167, 434, 529, 71, 168, 169, 314, 435, 531, 532, 170, 171, 315, 436, 172, 316, 437, 173, 72, 36, 76, 179, 318, 438, 439, 533, 440, 441, 534, 535, 571, 442, 443, 444, 445, 180, 37, 79, 81, 80, 38, 83, 183, 84, 85, 86, 184, 11, 30, 55, 31, 14, 16, 13, 6, 17, 40, 18]
set_option maxRecDepth 100000 in
theorem reached : Tryz.pinned.checked.prog.closure 3 = rm0 ++ (rm1 ++ (rm2 ++ (rm3 ++ (rm4 ++ (rm5 ++ (rm6 ++ (rm7))))))) := by kernel_rfl
noncomputable abbrev fI (g : FuncId) : Option String := (Tryz.pinned.checked.prog.funcs[g]?).bind fun fn => if fn.ours || fn.body.isNone || fn.name == "runtime.NumGoroutine" then some fn.name else none
noncomputable abbrev fG (g : FuncId) : List Nat := ((Tryz.pinned.checked.prog.funcs[g]?).bind (·.body)).elim [] Code.globalsNamed
noncomputable abbrev fE (g : FuncId) : Option String := (Tryz.pinned.checked.prog.funcs[g]?).bind fun fn => if fn.body.isNone then entryReads.lookup fn.name else none
set_option maxRecDepth 100000 in
theorem ri0 : rm0.filterMap fI = [] := by kernel_rfl
theorem rg0 : rm0.flatMap fG = [] := by kernel_rfl
theorem re0 : rm0.filterMap fE = [] := by kernel_rfl
set_option maxRecDepth 100000 in
theorem ri1 : rm1.filterMap fI = [] := by kernel_rfl
theorem rg1 : rm1.flatMap fG = [] := by kernel_rfl
theorem re1 : rm1.filterMap fE = [] := by kernel_rfl
set_option maxRecDepth 100000 in
theorem ri2 : rm2.filterMap fI = ["internal/bytealg.CountString", "internal/bytealg.IndexByteString", "internal/bytealg.IndexString"] := by kernel_rfl
theorem rg2 : rm2.flatMap fG = [2, 3, 0, 0, 0] := by kernel_rfl
theorem re2 : rm2.filterMap fE = ["internal/bytealg.MaxLen"] := by kernel_rfl
set_option maxRecDepth 100000 in
theorem ri3 : rm3.filterMap fI = [] := by kernel_rfl
theorem rg3 : rm3.flatMap fG = [1, 4, 5] := by kernel_rfl
theorem re3 : rm3.filterMap fE = [] := by kernel_rfl
set_option maxRecDepth 100000 in
theorem ri4 : rm4.filterMap fI = [] := by kernel_rfl
theorem rg4 : rm4.flatMap fG = [] := by kernel_rfl
theorem re4 : rm4.filterMap fE = [] := by kernel_rfl
set_option maxRecDepth 100000 in
theorem ri5 : rm5.filterMap fI = [] := by kernel_rfl
theorem rg5 : rm5.flatMap fG = [] := by kernel_rfl
theorem re5 : rm5.filterMap fE = [] := by kernel_rfl
set_option maxRecDepth 100000 in
theorem ri6 : rm6.filterMap fI = [] := by kernel_rfl
theorem rg6 : rm6.flatMap fG = [] := by kernel_rfl
theorem re6 : rm6.filterMap fE = [] := by kernel_rfl
set_option maxRecDepth 100000 in
theorem ri7 : rm7.filterMap fI = [] := by kernel_rfl
theorem rg7 : rm7.flatMap fG = [] := by kernel_rfl
theorem re7 : rm7.filterMap fE = [] := by kernel_rfl
theorem ri : (rm0 ++ (rm1 ++ (rm2 ++ (rm3 ++ (rm4 ++ (rm5 ++ (rm6 ++ (rm7)))))))).filterMap fI = ["internal/bytealg.CountString", "internal/bytealg.IndexByteString", "internal/bytealg.IndexString"] := by
  simp only [List.filterMap_append, ri0, ri1, ri2, ri3, ri4, ri5, ri6, ri7]
  rfl
theorem rg : (rm0 ++ (rm1 ++ (rm2 ++ (rm3 ++ (rm4 ++ (rm5 ++ (rm6 ++ (rm7)))))))).flatMap fG = [2, 3, 0, 0, 0, 1, 4, 5] := by
  simp only [List.flatMap_append, rg0, rg1, rg2, rg3, rg4, rg5, rg6, rg7]
  rfl
theorem re : (rm0 ++ (rm1 ++ (rm2 ++ (rm3 ++ (rm4 ++ (rm5 ++ (rm6 ++ (rm7)))))))).filterMap fE = ["internal/bytealg.MaxLen"] := by
  simp only [List.filterMap_append, re0, re1, re2, re3, re4, re5, re6, re7]
  rfl
theorem ei : Tryz.pinned.checked.prog.inPlace 3 = (rm0 ++ (rm1 ++ (rm2 ++ (rm3 ++ (rm4 ++ (rm5 ++ (rm6 ++ (rm7)))))))).filterMap fI := by unfold Program.inPlace; rw [reached]
theorem jf0 : (Rows.scriptLongRow.inPlace == Tryz.pinned.checked.prog.inPlace 3) = true := by
  rw [ei, ri]
  kernel_rfl
theorem jf1 : (Rows.scriptLongRow.unfollowed == Tryz.pinned.checked.prog.unfollowed 3) = true := by
  unfold Program.unfollowed
  rw [reached]
  kernel_rfl
theorem jf2 : (Rows.scriptLongRow.recurses == Tryz.pinned.checked.prog.recurses 3) = true := by
  have e : Tryz.pinned.checked.prog.unfollowed 3 = true := (beq_iff_eq.1 jf1).symm
  unfold Program.recurses
  rw [e]
  rfl
theorem en : Tryz.pinned.checked.prog.varsNamed 3 = ((((rm0 ++ (rm1 ++ (rm2 ++ (rm3 ++ (rm4 ++ (rm5 ++ (rm6 ++ (rm7)))))))).flatMap fG).eraseDups).filterMap (fun g => (Tryz.pinned.checked.prog.globals[g]?).map (·.name)) ++ (rm0 ++ (rm1 ++ (rm2 ++ (rm3 ++ (rm4 ++ (rm5 ++ (rm6 ++ (rm7)))))))).filterMap fE).eraseDups := by unfold Program.varsNamed; rw [reached]
theorem jf3 : (Rows.scriptLongRow.named == Tryz.pinned.checked.prog.varsNamed 3) = true := by
  rw [en, rg, re]
  kernel_rfl
end Go.Proofs.YtlbdcjnhlkkfeaaGreatDoor.scriptLong
