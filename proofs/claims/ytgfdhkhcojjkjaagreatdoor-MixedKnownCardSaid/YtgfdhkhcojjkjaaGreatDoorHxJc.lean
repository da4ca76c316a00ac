/- The functions that the call reaches, and what they name: by computation, run by run. -/
import Derived.Test.YtgfdhkhcojjkjaaGreatDoorRows
import Derived.KernelRfl
namespace Go.Proofs.YtgfdhkhcojjkjaaGreatDoor.mixedKnown
def rm0 : List FuncId := [3, 4, 11, 30, 69, 146, 268, 271, 148, 396, 269, 147, 270, 272, 273, 274, 275, 397, 276, 277, 398, 70, 71, 72, 149, 150, 278, 151, 152, 155, 154, 279, 399, 281, 401, 473, 474, 156, 284, 286, 283, 280, 400, 282, 153, 285, 287, 402, 475, 477, 524, 548, 564, 570, 573, 571, 549, 476, 523, 478, 31, 73, 157, 158, 160, 288, 289, 403, 159, 161, 290, 404, 292, 291, 293]
def rm1 : List FuncId := [294, 162, 295, 405, 324, 480, 479, 198, 326, 325, 163, 296, 297, 164, 298, 406, 482, 525, 501, 499, 172, 526, 550, 552, 481, 500, 551, 565, 572, 483, 484, 485, 299, 407, 486, 527, 74, 165, 166, 300, 408, 487, 528, 488, 489, 409, 490, 529, 167, 410, 491, 492, 493, 496, 168, 530, 533, 553, 554, 531, 532, 494, 534, 535, 495, 411, 412, 413, 5, 12, 32, 75, 169, 301, 414]
def rm2 : List FuncId := [302, 415, 416, 497, 498, 170, 303, 171, 76, 173, 77, 78, 174, 304, 379, 465, 517, 544, 545, 559, 518, 546, 519, 547, 560, 568, 561, 562, 563, 569, 305, 306, 417, 418, 117, 134, 175, 307, 419, 308, 420, 421, 422, 423, 424, 309, 176, 310, 118, 135, 33, 35, 79, 34, 36, 80, 81, 177, 178, 311, 190, 180, 312, 255, 13, 14, 15, 6, 7, 21, 37, 38, 17, 39, 48]
def rm3 : List FuncId := [82, 84, 83, 18, 86, 87, 85, 179, 139, 40, 88, 181, 92, 182, 89, 183, 90, 184, 91, 185, 186, 187, 188, 189, 313, 314, 191, 315, 425, 316, 317, 192, 318, 426, 502, 536, 537, 266, 555, 556, 538, 539, 557, 558, 566, 567, 427, 503, 319, 193, 194, 320, 321, 22, 29, 62, 67, 143, 265, 142, 257, 258, 391, 259, 392, 393, 260, 394, 395, 472, 261, 262, 263, 264, 68]
def rm4 : List FuncId := [145, 267, 144, 41, 53, 131, 93, 195, 323, 322, 196, 94, 197, 97, 208, 95, 199, 327, 200, 201, 42, 96, 202, 203, 204, 328, 238, 205, 329, 207, 206, 330, 98, 209, 210, 211, 331, 212, 213, 214, 99, 100, 215, 102, 101, 216, 332, 333, 335, 334, 217, 337, 336, 338, 428, 430, 429, 431, 436, 339, 432, 504, 540, 57, 138, 440, 505, 435, 433, 434, 437, 438, 439, 506, 103]
def rm5 : List FuncId := [218, 219, 340, 441, 442, 507, 443, 444, 508, 509, 541, 445, 446, 447, 448, 220, 222, 343, 344, 221, 232, 341, 107, 237, 342, 449, 450, 451, 452, 348, 104, 224, 345, 223, 225, 226, 346, 347, 350, 349, 453, 227, 228, 351, 229, 230, 352, 231, 353, 454, 354, 43, 105, 233, 355, 455, 510, 542, 543, 466, 520, 521, 511, 512, 513, 234, 356, 456, 514, 515, 235, 357, 358, 44, 106]
def rm6 : List FuncId := [236, 359, 109, 361, 360, 239, 108, 110, 45, 111, 112, 240, 362, 457, 458, 364, 363, 244, 241, 365, 246, 243, 245, 367, 366, 242, 113, 114, 247, 368, 251, 459, 460, 46, 115, 248, 369, 375, 370, 461, 371, 372, 462, 463, 516, 373, 374, 376, 377, 47, 24, 54, 133, 58, 132, 55, 116, 119, 23, 49, 120, 50, 121, 123, 250, 122, 249, 124, 378, 464, 51, 125, 126, 252, 380]
def rm7 : List FuncId := [467, 468, 127, 128, 253, 381, 129, 254, 382, 130, 52, 25, 56, 136, 256, 383, 384, 469, 385, 386, 470, 471, 522, 387, 388, 389, 390, 137, 26, 59, 61, 60, 27, 63, 140, 64, 65, 66, 141, 16, 19, 20, 8, 28, 9, 10]
set_option maxRecDepth 100000 in
theorem reached : Tryz.pinned.checked.prog.closure 3 = rm0 ++ (rm1 ++ (rm2 ++ (rm3 ++ (rm4 ++ (rm5 ++ (rm6 ++ (rm7))))))) := by kernel_rfl
noncomputable abbrev fI (g : FuncId) : Option String := (Tryz.pinned.checked.prog.funcs[g]?).bind fun fn => if fn.ours || fn.body.isNone || fn.name == "runtime.NumGoroutine" then some fn.name else none
noncomputable abbrev fG (g : FuncId) : List Nat := ((Tryz.pinned.checked.prog.funcs[g]?).bind (·.body)).elim [] Code.globalsNamed
noncomputable abbrev fE (g : FuncId) : Option String := (Tryz.pinned.checked.prog.funcs[g]?).bind fun fn => if fn.body.isNone then entryReads.lookup fn.name else none
set_option maxRecDepth 100000 in
theorem ri0 : rm0.filterMap fI = [] := by kernel_rfl
theorem rg0 : rm0.flatMap fG = [] := by kernel_rfl
theorem re0 : rm0.filterMap fE = [] := by kernel_rfl
set_option maxRecDepth 100000 in
theorem ri1 : rm1.filterMap fI = [] := by kernel_rfl
theorem rg1 : rm1.flatMap fG = [] := by kernel_rfl
theorem re1 : rm1.filterMap fE = [] := by kernel_rfl
set_option maxRecDepth 100000 in
theorem ri2 : rm2.filterMap fI = ["internal/bytealg.CountString", "internal/bytealg.IndexByteString", "internal/bytealg.IndexString"] := by kernel_rfl
theorem rg2 : rm2.flatMap fG = [2, 3, 1, 1, 1] := by kernel_rfl
theorem re2 : rm2.filterMap fE = ["internal/bytealg.MaxLen"] := by kernel_rfl
set_option maxRecDepth 100000 in
theorem ri3 : rm3.filterMap fI = [] := by kernel_rfl
theorem rg3 : rm3.flatMap fG = [0, 4, 5] := by kernel_rfl
theorem re3 : rm3.filterMap fE = [] := by kernel_rfl
set_option maxRecDepth 100000 in
theorem ri4 : rm4.filterMap fI = [] := by kernel_rfl
theorem rg4 : rm4.flatMap fG = [] := by kernel_rfl
theorem re4 : rm4.filterMap fE = [] := by kernel_rfl
set_option maxRecDepth 100000 in
theorem ri5 : rm5.filterMap fI = [] := by kernel_rfl
theorem rg5 : rm5.flatMap fG = [] := by kernel_rfl
theorem re5 : rm5.filterMap fE = [] := by kernel_rfl
set_option maxRecDepth 100000 in
theorem ri6 : rm6.filterMap fI = [] := by kernel_rfl
theorem rg6 : rm6.flatMap fG = [] := by kernel_rfl
theorem re6 : rm6.filterMap fE = [] := by kernel_rfl
set_option maxRecDepth 100000 in
theorem ri7 : rm7.filterMap fI = [] := by kernel_rfl
theorem rg7 : rm7.flatMap fG = [] := by kernel_rfl
theorem re7 : rm7.filterMap fE = [] := by kernel_rfl
theorem ri : (rm0 ++ (rm1 ++ (rm2 ++ (rm3 ++ (rm4 ++ (rm5 ++ (rm6 ++ (rm7)))))))).filterMap fI = ["internal/bytealg.CountString", "internal/bytealg.IndexByteString", "internal/bytealg.IndexString"] := by
  simp only [List.filterMap_append, ri0, ri1, ri2, ri3, ri4, ri5, ri6, ri7]
  rfl
theorem rg : (rm0 ++ (rm1 ++ (rm2 ++ (rm3 ++ (rm4 ++ (rm5 ++ (rm6 ++ (rm7)))))))).flatMap fG = [2, 3, 1, 1, 1, 0, 4, 5] := by
  simp only [List.flatMap_append, rg0, rg1, rg2, rg3, rg4, rg5, rg6, rg7]
  rfl
theorem re : (rm0 ++ (rm1 ++ (rm2 ++ (rm3 ++ (rm4 ++ (rm5 ++ (rm6 ++ (rm7)))))))).filterMap fE = ["internal/bytealg.MaxLen"] := by
  simp only [List.filterMap_append, re0, re1, re2, re3, re4, re5, re6, re7]
  rfl
theorem ei : Tryz.pinned.checked.prog.inPlace 3 = (rm0 ++ (rm1 ++ (rm2 ++ (rm3 ++ (rm4 ++ (rm5 ++ (rm6 ++ (rm7)))))))).filterMap fI := by unfold Program.inPlace; rw [reached]
theorem jf0 : (Rows.mixedKnownRow.inPlace == Tryz.pinned.checked.prog.inPlace 3) = true := by
  rw [ei, ri]
  kernel_rfl
theorem jf1 : (Rows.mixedKnownRow.unfollowed == Tryz.pinned.checked.prog.unfollowed 3) = true := by
  unfold Program.unfollowed
  rw [reached]
  kernel_rfl
theorem jf2 : (Rows.mixedKnownRow.recurses == Tryz.pinned.checked.prog.recurses 3) = true := by
  have e : Tryz.pinned.checked.prog.unfollowed 3 = true := (beq_iff_eq.1 jf1).symm
  unfold Program.recurses
  rw [e]
  rfl
theorem en : Tryz.pinned.checked.prog.varsNamed 3 = ((((rm0 ++ (rm1 ++ (rm2 ++ (rm3 ++ (rm4 ++ (rm5 ++ (rm6 ++ (rm7)))))))).flatMap fG).eraseDups).filterMap (fun g => (Tryz.pinned.checked.prog.globals[g]?).map (·.name)) ++ (rm0 ++ (rm1 ++ (rm2 ++ (rm3 ++ (rm4 ++ (rm5 ++ (rm6 ++ (rm7)))))))).filterMap fE).eraseDups := by unfold Program.varsNamed; rw [reached]
theorem jf3 : (Rows.mixedKnownRow.named == Tryz.pinned.checked.prog.varsNamed 3) = true := by
  rw [en, rg, re]
  kernel_rfl
end Go.Proofs.YtgfdhkhcojjkjaaGreatDoor.mixedKnown
