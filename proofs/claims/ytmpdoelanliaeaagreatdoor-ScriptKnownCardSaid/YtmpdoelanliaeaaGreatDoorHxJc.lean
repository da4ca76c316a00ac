/- The functions that the call reaches, and what they name: by computation, run by run. -/
import Derived.Test.YtmpdoelanliaeaaGreatDoorRows
import Derived.KernelRfl
namespace Go.Proofs.YtmpdoelanliaeaaGreatDoor.scriptKnown
def rm0 : List FuncId := [3, 4, 9, 28, 46, 94, 195, 198, 96, 330, 196, 95, 197, 199, 200, 201, 202, 331, 203, 204, 332, 47, 48, 49, 97, 98, 205, 99, 100, 103, 102, 206, 333, 208, 335, 451, 452, 104, 211, 213, 210, 207, 334, 209, 101, 212, 214, 336, 453, 455, 538, 573, 584, 586, 589, 587, 574, 454, 537, 456, 29, 50, 105, 106, 108, 215, 216, 337, 107, 109, 217, 338, 219, 218, 220]
def rm1 : List FuncId := [221, 110, 222, 339, 371, 458, 457, 257, 373, 372, 111, 223, 224, 112, 225, 340, 460, 540, 541, 554, 231, 542, 575, 577, 459, 539, 576, 585, 588, 461, 462, 463, 226, 341, 464, 543, 51, 113, 114, 227, 342, 465, 544, 466, 467, 343, 468, 545, 115, 344, 469, 470, 471, 474, 116, 546, 549, 578, 579, 547, 548, 472, 550, 551, 473, 345, 346, 347, 10, 30, 52, 117, 228, 348, 475]
def rm2 : List FuncId := [349, 476, 477, 552, 553, 229, 350, 230, 118, 232, 119, 120, 233, 351, 17, 42, 88, 186, 187, 320, 89, 188, 90, 189, 321, 447, 322, 323, 324, 448, 352, 353, 478, 479, 161, 178, 234, 354, 480, 355, 481, 482, 483, 484, 485, 356, 235, 357, 162, 179, 53, 55, 121, 54, 56, 122, 123, 236, 237, 358, 249, 239, 359, 318, 31, 32, 33, 11, 5, 19, 18, 25, 21, 43, 91]
def rm3 : List FuncId := [190, 92, 20, 12, 34, 57, 58, 41, 59, 69, 124, 126, 125, 15, 128, 129, 127, 238, 183, 60, 130, 240, 134, 241, 131, 242, 132, 243, 133, 244, 245, 246, 247, 248, 360, 361, 250, 362, 486, 363, 364, 251, 365, 487, 93, 191, 192, 326, 325, 327, 193, 194, 328, 329, 449, 450, 488, 555, 366, 252, 253, 367, 368, 35, 62, 83, 138, 262, 383, 261, 375, 376, 489, 377, 490]
def rm4 : List FuncId := [491, 378, 492, 493, 556, 379, 380, 381, 382, 139, 264, 384, 263, 61, 74, 175, 135, 254, 370, 369, 255, 136, 256, 141, 271, 137, 258, 374, 259, 260, 63, 140, 265, 266, 267, 385, 301, 268, 386, 270, 269, 387, 142, 272, 273, 274, 388, 275, 276, 277, 143, 144, 278, 146, 145, 279, 389, 390, 392, 391, 280, 394, 393, 395, 494, 496, 495, 497, 502, 396, 498, 557, 580, 78, 182]
def rm5 : List FuncId := [506, 558, 501, 499, 500, 503, 504, 505, 559, 147, 281, 282, 397, 507, 508, 560, 509, 510, 561, 562, 581, 511, 512, 513, 514, 283, 285, 400, 401, 284, 295, 398, 151, 300, 399, 515, 516, 517, 518, 405, 148, 287, 402, 286, 288, 289, 403, 404, 407, 406, 519, 290, 291, 408, 292, 293, 409, 294, 410, 520, 411, 64, 149, 296, 412, 521, 563, 582, 583, 531, 570, 571, 564, 565, 566]
def rm6 : List FuncId := [297, 413, 522, 567, 568, 298, 414, 415, 65, 150, 299, 416, 153, 418, 417, 302, 152, 154, 66, 155, 156, 303, 419, 523, 524, 421, 420, 307, 304, 422, 309, 306, 308, 424, 423, 305, 157, 158, 310, 425, 314, 525, 526, 67, 159, 311, 426, 432, 427, 527, 428, 429, 528, 529, 569, 430, 431, 433, 434, 68, 37, 75, 177, 79, 176, 76, 160, 163, 36, 70, 164, 71, 165, 167, 313]
def rm7 : List FuncId := [166, 312, 168, 435, 530, 72, 169, 170, 315, 436, 532, 533, 171, 172, 316, 437, 173, 317, 438, 174, 73, 38, 77, 180, 319, 439, 440, 534, 441, 442, 535, 536, 572, 443, 444, 445, 446, 181, 39, 80, 82, 81, 40, 84, 184, 85, 86, 87, 185, 6, 22, 44, 23, 14, 16, 13, 7, 24, 8, 26, 45, 27]
set_option maxRecDepth 100000 in
theorem reached : Tryz.pinned.checked.prog.closure 3 = rm0 ++ (rm1 ++ (rm2 ++ (rm3 ++ (rm4 ++ (rm5 ++ (rm6 ++ (rm7))))))) := by kernel_rfl
noncomputable abbrev fI (g : FuncId) : Option String := (Tryz.pinned.checked.prog.funcs[g]?).bind fun fn => if fn.ours || fn.body.isNone || fn.name == "runtime.NumGoroutine" then some fn.name else none
noncomputable abbrev fG (g : FuncId) : List Nat := ((Tryz.pinned.checked.prog.funcs[g]?).bind (·.body)).elim [] Code.globalsNamed
noncomputable abbrev fE (g : FuncId) : Option String := (Tryz.pinned.checked.prog.funcs[g]?).bind fun fn => if fn.body.isNone then entryReads.lookup fn.name else none
set_option maxRecDepth 100000 in
theorem ri0 : rm0.filterMap fI = [] := by kernel_rfl
theorem rg0 : rm0.flatMap fG = [] := by kernel_rfl
theorem re0 : rm0.filterMap fE = [] := by kernel_rfl
set_option maxRecDepth 100000 in
theorem ri1 : rm1.filterMap fI = [] := by kernel_rfl
theorem rg1 : rm1.flatMap fG = [] := by kernel_rfl
theorem re1 : rm1.filterMap fE = [] := by kernel_rfl
set_option maxRecDepth 100000 in
theorem ri2 : rm2.filterMap fI = ["internal/bytealg.CountString", "internal/bytealg.IndexByteString", "internal/bytealg.IndexString"] := by kernel_rfl
theorem rg2 : rm2.flatMap fG = [2, 3, 0, 0, 0] := by kernel_rfl
theorem re2 : rm2.filterMap fE = ["internal/bytealg.MaxLen"] := by kernel_rfl
set_option maxRecDepth 100000 in
theorem ri3 : rm3.filterMap fI = [] := by kernel_rfl
theorem rg3 : rm3.flatMap fG = [1, 4, 5] := by kernel_rfl
theorem re3 : rm3.filterMap fE = [] := by kernel_rfl
set_option maxRecDepth 100000 in
theorem ri4 : rm4.filterMap fI = [] := by kernel_rfl
theorem rg4 : rm4.flatMap fG = [] := by kernel_rfl
theorem re4 : rm4.filterMap fE = [] := by kernel_rfl
set_option maxRecDepth 100000 in
theorem ri5 : rm5.filterMap fI = [] := by kernel_rfl
theorem rg5 : rm5.flatMap fG = [] := by kernel_rfl
theorem re5 : rm5.filterMap fE = [] := by kernel_rfl
set_option maxRecDepth 100000 in
theorem ri6 : rm6.filterMap fI = [] := by kernel_rfl
theorem rg6 : rm6.flatMap fG = [] := by kernel_rfl
theorem re6 : rm6.filterMap fE = [] := by kernel_rfl
set_option maxRecDepth 100000 in
theorem ri7 : rm7.filterMap fI = [] := by kernel_rfl
theorem rg7 : rm7.flatMap fG = [] := by kernel_rfl
theorem re7 : rm7.filterMap fE = [] := by kernel_rfl
theorem ri : (rm0 ++ (rm1 ++ (rm2 ++ (rm3 ++ (rm4 ++ (rm5 ++ (rm6 ++ (rm7)))))))).filterMap fI = ["internal/bytealg.CountString", "internal/bytealg.IndexByteString", "internal/bytealg.IndexString"] := by
  simp only [List.filterMap_append, ri0, ri1, ri2, ri3, ri4, ri5, ri6, ri7]
  rfl
theorem rg : (rm0 ++ (rm1 ++ (rm2 ++ (rm3 ++ (rm4 ++ (rm5 ++ (rm6 ++ (rm7)))))))).flatMap fG = [2, 3, 0, 0, 0, 1, 4, 5] := by
  simp only [List.flatMap_append, rg0, rg1, rg2, rg3, rg4, rg5, rg6, rg7]
  rfl
theorem re : (rm0 ++ (rm1 ++ (rm2 ++ (rm3 ++ (rm4 ++ (rm5 ++ (rm6 ++ (rm7)))))))).filterMap fE = ["internal/bytealg.MaxLen"] := by
  simp only [List.filterMap_append, re0, re1, re2, re3, re4, re5, re6, re7]
  rfl
theorem ei : Tryz.pinned.checked.prog.inPlace 3 = (rm0 ++ (rm1 ++ (rm2 ++ (rm3 ++ (rm4 ++ (rm5 ++ (rm6 ++ (rm7)))))))).filterMap fI := by unfold Program.inPlace; rw [reached]
theorem jf0 : (Rows.scriptKnownRow.inPlace == Tryz.pinned.checked.prog.inPlace 3) = true := by
  rw [ei, ri]
  kernel_rfl
theorem jf1 : (Rows.scriptKnownRow.unfollowed == Tryz.pinned.checked.prog.unfollowed 3) = true := by
  unfold Program.unfollowed
  rw [reached]
  kernel_rfl
theorem jf2 : (Rows.scriptKnownRow.recurses == Tryz.pinned.checked.prog.recurses 3) = true := by
  have e : Tryz.pinned.checked.prog.unfollowed 3 = true := (beq_iff_eq.1 jf1).symm
  unfold Program.recurses
  rw [e]
  rfl
theorem en : Tryz.pinned.checked.prog.varsNamed 3 = ((((rm0 ++ (rm1 ++ (rm2 ++ (rm3 ++ (rm4 ++ (rm5 ++ (rm6 ++ (rm7)))))))).flatMap fG).eraseDups).filterMap (fun g => (Tryz.pinned.checked.prog.globals[g]?).map (·.name)) ++ (rm0 ++ (rm1 ++ (rm2 ++ (rm3 ++ (rm4 ++ (rm5 ++ (rm6 ++ (rm7)))))))).filterMap fE).eraseDups := by unfold Program.varsNamed; rw [reached]
theorem jf3 : (Rows.scriptKnownRow.named == Tryz.pinned.checked.prog.varsNamed 3) = true := by
  rw [en, rg, re]
  kernel_rfl
end Go.Proofs.YtmpdoelanliaeaaGreatDoor.scriptKnown
