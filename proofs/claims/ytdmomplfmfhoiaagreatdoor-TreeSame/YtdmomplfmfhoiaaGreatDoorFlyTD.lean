/-
  The tables of the program: each entry is looked at by the kernel.
-/
import Derived.Test.YtdmomplfmfhoiaaGreatDoorTr1
import Derived.Test.YtdmomplfmfhoiaaGreatDoorProg
import Derived.Test.YtdmomplfmfhoiaaGreatDoorFlyD
import Derived.KernelRfl
namespace Fly
open Go
structure Leaf where
  itoa : Int → List UInt8
  flt : Int → List UInt8
def opE : Ex → Int
  | .mk op _ _ _ _ _ _ => op
def isTwo (o : Int) : Bool := decide (5 ≤ o) && decide (o ≤ 16)
def signB (o : Int) : List UInt8 :=
  if o = 5 then [43] else if o = 6 then [45] else if o = 7 then [42] else if o = 8 then [47] else if o = 9 then [60] else if o = 10 then [60, 61] else if o = 11 then [61, 61] else if o = 12 then [33, 61]
  else if o = 13 then [62] else if o = 14 then [62, 61] else if o = 15 then [38, 38] else [124, 124]
def argT (ts : List (Int × List UInt8)) (i : Nat) : List UInt8 :=
  match ts[i]? with
  | some p => p.2
  | none => []
def sideT (ts : List (Int × List UInt8)) (i : Nat) : List UInt8 :=
  match ts[i]? with
  | some p => if isTwo p.1 then [40] ++ p.2 ++ [41] else p.2
  | none => []
def nameT (nm : List UInt8) (ts : List (Int × List UInt8)) : List UInt8 := if ts.length = 0 then nm else nm ++ [91] ++ argT ts 0 ++ [93]
mutual
def textE (l : Leaf) : Ex → List UInt8
  | .mk op _ b i f nm es =>
    if isTwo op then sideT (textEs l es) 0 ++ ([32] ++ signB op ++ [32]) ++ sideT (textEs l es) 1
    else if op = 1 then (if b then [116, 114, 117, 101] else [102, 97, 108, 115, 101])
    else if op = 2 then l.itoa i
    else if op = 3 then l.flt f
    else if op = 4 then nameT nm.data.toList (textEs l es)
    else if op = 17 then [45] ++ sideT (textEs l es) 0
    else if op = 18 then [33] ++ sideT (textEs l es) 0
    else if op = 19 then [105, 110, 116, 40] ++ argT (textEs l es) 0 ++ [41]
    else if op = 20 then [102, 108, 111, 97, 116, 40] ++ argT (textEs l es) 0 ++ [41]
    else if op = 21 then [97, 98, 115, 40] ++ argT (textEs l es) 0 ++ [41]
    else []
def textEs (l : Leaf) : Exs → List (Int × List UInt8)
  | .nil => []
  | .cons e r => (opE e, textE l e) :: textEs l r
end
theorem textEs_get (l : Leaf) : ∀ (es : Exs) (i : Nat), (textEs l es)[i]? = (es.list[i]?).map fun x => (opE x, textE l x)
  | .nil, i => by simp [textEs, Exs.list]
  | .cons e r, 0 => by simp [textEs, Exs.list]
  | .cons e r, i + 1 => by simp [textEs, Exs.list, textEs_get l r i]
theorem textEs_len (l : Leaf) : ∀ es : Exs, (textEs l es).length = es.list.length
  | .nil => rfl
  | .cons e r => by simp [textEs, Exs.list, textEs_len l r]
theorem argT_some {l : Leaf} {es : Exs} {i : Nat} {x : Ex} (h : es.list[i]? = some x) : argT (textEs l es) i = textE l x := by simp [argT, textEs_get, h]
theorem argT_none {l : Leaf} {es : Exs} {i : Nat} (h : es.list[i]? = none) : argT (textEs l es) i = [] := by simp [argT, textEs_get, h]
theorem sideT_some {l : Leaf} {es : Exs} {i : Nat} {x : Ex} (h : es.list[i]? = some x) : sideT (textEs l es) i = if isTwo (opE x) then [40] ++ textE l x ++ [41] else textE l x := by simp [sideT, textEs_get, h]
theorem sideT_none {l : Leaf} {es : Exs} {i : Nat} (h : es.list[i]? = none) : sideT (textEs l es) i = [] := by simp [sideT, textEs_get, h]
end Fly
namespace Fly
open Go Go.Proofs
set_option maxRecDepth 100000

def lkT {α : Type} : List (Nat × α) → Nat → Option α
  | [], _ => none
  | (k, v) :: l, t => bif Nat.beq k t then some v else lkT l t
def lkF {α : Type} : List ((Nat × Nat) × α) → Nat → Nat → Option α
  | [], _, _ => none
  | ((k, j), v) :: l, t, f => bif Nat.beq k t then (bif Nat.beq j f then some v else lkF l t f) else lkF l t f
theorem lkT_ok {α : Type} {g : Nat → Option α} : ∀ (l : List (Nat × α)), (l.map fun p => g p.1) = (l.map fun p => some p.2) → ∀ t r, lkT l t = some r → g t = some r
  | [], _, t, r, h => by simp [lkT] at h
  | (k, v) :: l, he, t, r, h => by
    simp only [List.map_cons, List.cons.injEq] at he
    simp only [lkT] at h
    cases hb : Nat.beq k t with
    | true => rw [hb] at h; have := Nat.eq_of_beq_eq_true hb; subst this; simp at h; subst h; exact he.1
    | false => rw [hb] at h; exact lkT_ok l he.2 t r h
theorem lkF_ok {α : Type} {g : Nat → Nat → Option α} : ∀ (l : List ((Nat × Nat) × α)), (l.map fun p => g p.1.1 p.1.2) = (l.map fun p => some p.2) → ∀ t f r, lkF l t f = some r → g t f = some r
  | [], _, t, f, r, h => by simp [lkF] at h
  | ((k, j), v) :: l, he, t, f, r, h => by
    simp only [List.map_cons, List.cons.injEq] at he
    simp only [lkF] at h
    cases hb : Nat.beq k t with
    | true =>
      rw [hb] at h
      cases hc : Nat.beq j f with
      | true => rw [hc] at h; have := Nat.eq_of_beq_eq_true hb; subst this; have := Nat.eq_of_beq_eq_true hc; subst this; simp at h; subst h; exact he.1
      | false => rw [hc] at h; exact lkF_ok l he.2 t f r h
    | false => rw [hb] at h; exact lkF_ok l he.2 t f r h

def tyL : List (Nat × Bool × Nat) := [
  (0, false, 1), (1, false, 1), (2, false, 1), (3, false, 1), (4, false, 1), (5, false, 1), (6, false, 1), (7, true, 4), (8, true, 4), (9, false, 1), (10, false, 1),
  (11, false, 1), (12, false, 1), (13, true, 2), (14, true, 2), (15, false, 1), (16, false, 1), (17, false, 1), (18, true, 1), (19, true, 1), (20, false, 1),
  (21, false, 1), (22, false, 1), (23, false, 1), (24, true, 4), (25, true, 4), (26, false, 1), (27, false, 1), (28, false, 1), (29, false, 1), (30, false, 1),
  (31, true, 2), (32, true, 2), (33, false, 1), (34, false, 1), (35, false, 1), (36, false, 1), (37, false, 1), (38, false, 1), (39, false, 1), (40, true, 7),
  (41, true, 7), (42, true, 15), (43, true, 15), (44, false, 1), (45, false, 1), (46, false, 1), (47, false, 1), (48, false, 1), (49, false, 1), (50, false, 1),
  (51, false, 1), (52, false, 1), (53, true, 20), (54, true, 20), (55, false, 1), (56, false, 1), (57, false, 1), (58, false, 1), (59, false, 1), (60, false, 1),
  (61, false, 1), (62, false, 1), (63, false, 1), (64, false, 1), (65, false, 1), (66, false, 1), (67, false, 1), (68, true, 2), (69, true, 2), (70, true, 3),
  (71, true, 3), (72, false, 1), (73, false, 1), (74, false, 1), (75, false, 1), (76, false, 1), (77, false, 1), (78, false, 1), (79, false, 1), (80, false, 1),
  (81, false, 1), (82, false, 1), (83, false, 1), (84, false, 1), (85, false, 1), (86, false, 1), (87, false, 1), (88, false, 1), (89, false, 1), (90, false, 1),
  (91, false, 1), (92, false, 1), (93, false, 1), (94, false, 1), (95, true, 2), (96, true, 2), (97, false, 1), (98, false, 1), (99, false, 1), (100, false, 1),
  (101, false, 1), (102, false, 1), (103, false, 1), (104, false, 1), (105, false, 1), (106, true, 2), (107, false, 1), (108, false, 1), (109, false, 1),
  (110, false, 1), (111, false, 1), (112, false, 1), (113, false, 1), (114, false, 1), (115, false, 1), (116, false, 1), (117, false, 1), (118, false, 1),
  (119, false, 1), (120, false, 1), (121, false, 1), (122, false, 1), (123, false, 1), (124, false, 1), (125, false, 1), (126, false, 1), (127, false, 1),
  (128, false, 1), (129, false, 1), (130, false, 1), (131, false, 1), (132, false, 1), (133, true, 2), (134, true, 2), (135, true, 5), (136, true, 5), (137, false, 1),
  (138, false, 1), (139, false, 1), (140, false, 1), (141, false, 1), (142, false, 1), (143, false, 1), (144, false, 1), (145, false, 1), (146, false, 1),
  (147, false, 1), (148, false, 1), (149, false, 1), (150, false, 1), (151, true, 12), (152, false, 1), (153, false, 1), (154, false, 1), (155, false, 1),
  (156, false, 1), (157, false, 1), (158, false, 1), (159, false, 1), (160, false, 1), (161, false, 1), (162, false, 1), (163, false, 1), (164, false, 1),
  (165, false, 1), (166, false, 1), (167, false, 1), (168, true, 256), (169, true, 256), (170, false, 1), (171, false, 1), (172, false, 1), (173, false, 1),
  (174, false, 1), (175, false, 1), (176, false, 1), (177, false, 1), (178, false, 1), (179, true, 24), (180, false, 1), (181, false, 1), (182, false, 1),
  (183, false, 1), (184, false, 1), (185, false, 1), (186, false, 1), (187, false, 1), (188, false, 1), (189, false, 1), (190, false, 1), (191, false, 1),
  (192, false, 1), (193, false, 1), (194, true, 20), (195, true, 65), (196, false, 1), (197, false, 1), (198, false, 1), (199, false, 1), (200, false, 1),
  (201, true, 32), (202, true, 64), (203, true, 256), (204, true, 2), (205, true, 2), (206, true, 32), (207, true, 4), (208, true, 4), (209, true, 0), (210, true, 0),
  (211, true, 0), (212, false, 1), (213, false, 1), (214, false, 1), (215, false, 1), (216, false, 1), (217, true, 11), (218, true, 11)]
def ikL : List (Nat × IntKind) := [
  (2, .i64), (3, .i64), (5, .u8), (6, .u8), (12, .u64), (21, .i32), (34, .u64), (35, .u64), (37, .u8), (39, .u8), (52, .u8), (59, .u64), (60, .u8), (99, .u8),
  (104, .u8), (128, .i64), (142, .u32), (212, .u8), (213, .u8), (215, .i32), (216, .i32)]
def foL : List ((Nat × Nat) × Nat × Bool × Nat) := [
  ((7, 0), 0, false, 1), ((7, 1), 1, false, 1), ((7, 2), 2, false, 1), ((7, 3), 3, false, 1), ((8, 0), 0, false, 1), ((8, 1), 1, false, 1), ((8, 2), 2, false, 1),
  ((8, 3), 3, false, 1), ((13, 0), 0, false, 1), ((13, 1), 1, false, 1), ((14, 0), 0, false, 1), ((14, 1), 1, false, 1), ((18, 0), 0, false, 1), ((19, 0), 0, false, 1),
  ((24, 0), 0, false, 1), ((24, 1), 1, false, 1), ((24, 2), 2, false, 1), ((24, 3), 3, false, 1), ((25, 0), 0, false, 1), ((25, 1), 1, false, 1), ((25, 2), 2, false, 1),
  ((25, 3), 3, false, 1), ((31, 0), 0, false, 1), ((31, 1), 1, false, 1), ((32, 0), 0, false, 1), ((32, 1), 1, false, 1), ((40, 0), 0, false, 1), ((40, 1), 1, false, 1),
  ((40, 2), 2, false, 1), ((40, 3), 3, false, 1), ((40, 4), 4, false, 1), ((40, 5), 5, false, 1), ((40, 6), 6, false, 1), ((41, 0), 0, false, 1), ((41, 1), 1, false, 1),
  ((41, 2), 2, false, 1), ((41, 3), 3, false, 1), ((41, 4), 4, false, 1), ((41, 5), 5, false, 1), ((41, 6), 6, false, 1), ((42, 0), 0, false, 1), ((42, 1), 1, false, 1),
  ((42, 2), 2, false, 1), ((42, 3), 3, false, 1), ((42, 4), 4, true, 7), ((42, 5), 11, false, 1), ((42, 6), 12, false, 1), ((42, 7), 13, false, 1), ((42, 8), 14, false, 1),
  ((43, 0), 0, false, 1), ((43, 1), 1, false, 1), ((43, 2), 2, false, 1), ((43, 3), 3, false, 1), ((43, 4), 4, true, 7), ((43, 5), 11, false, 1), ((43, 6), 12, false, 1),
  ((43, 7), 13, false, 1), ((43, 8), 14, false, 1), ((53, 0), 0, false, 1), ((53, 1), 1, false, 1), ((53, 2), 2, false, 1), ((53, 3), 3, false, 1), ((53, 4), 4, false, 1),
  ((53, 5), 5, false, 1), ((53, 6), 6, true, 7), ((53, 7), 13, true, 7), ((54, 0), 0, false, 1), ((54, 1), 1, false, 1), ((54, 2), 2, false, 1), ((54, 3), 3, false, 1),
  ((54, 4), 4, false, 1), ((54, 5), 5, false, 1), ((54, 6), 6, true, 7), ((54, 7), 13, true, 7), ((68, 0), 0, false, 1), ((68, 1), 1, false, 1), ((69, 0), 0, false, 1),
  ((69, 1), 1, false, 1), ((70, 0), 0, true, 2), ((70, 1), 2, false, 1), ((71, 0), 0, true, 2), ((71, 1), 2, false, 1), ((95, 0), 0, false, 1), ((95, 1), 1, false, 1),
  ((96, 0), 0, false, 1), ((96, 1), 1, false, 1), ((133, 0), 0, false, 1), ((133, 1), 1, false, 1), ((134, 0), 0, false, 1), ((134, 1), 1, false, 1), ((135, 0), 0, false, 1),
  ((135, 1), 1, true, 2), ((135, 2), 3, false, 1), ((135, 3), 4, false, 1), ((136, 0), 0, false, 1), ((136, 1), 1, true, 2), ((136, 2), 3, false, 1), ((136, 3), 4, false, 1),
  ((204, 0), 0, false, 1), ((204, 1), 1, false, 1), ((205, 0), 0, false, 1), ((205, 1), 1, false, 1), ((207, 0), 0, false, 1), ((207, 1), 1, false, 1), ((207, 2), 2, false, 1),
  ((207, 3), 3, false, 1), ((208, 0), 0, false, 1), ((208, 1), 1, false, 1), ((208, 2), 2, false, 1), ((208, 3), 3, false, 1), ((217, 0), 0, false, 1), ((217, 1), 1, false, 1),
  ((217, 2), 2, false, 1), ((217, 3), 3, false, 1), ((217, 4), 4, false, 1), ((217, 5), 5, false, 1), ((217, 6), 6, false, 1), ((217, 7), 7, false, 1), ((217, 8), 8, false, 1),
  ((217, 9), 9, false, 1), ((217, 10), 10, false, 1), ((218, 0), 0, false, 1), ((218, 1), 1, false, 1), ((218, 2), 2, false, 1), ((218, 3), 3, false, 1),
  ((218, 4), 4, false, 1), ((218, 5), 5, false, 1), ((218, 6), 6, false, 1), ((218, 7), 7, false, 1), ((218, 8), 8, false, 1), ((218, 9), 9, false, 1), ((218, 10), 10, false, 1)]
def elL : List (Nat × TypeId × Nat) := [
  (22, 54, 20), (23, 43, 15), (28, 35, 1), (30, 9, 1), (38, 41, 7), (67, 5, 1), (93, 142, 1), (94, 142, 1)]
def zeL : List (Nat × List Value) := [
  (1, [.nilFunc]), (2, [.int .i64 0]), (3, [.int .i64 0]), (4, [.bool false]), (5, [.int .u8 0]), (6, [.int .u8 0]), (7, [.int .i64 0, .int .i64 0, .bool false, .int .u8 0]),
  (8, [.int .i64 0, .int .i64 0, .bool false, .int .u8 0]), (9, [.string ByteArray.empty]), (10, [.string ByteArray.empty]), (11, [.string ByteArray.empty]),
  (12, [.int .u64 0]), (13, [.string ByteArray.empty, .int .u64 0]), (14, [.string ByteArray.empty, .int .u64 0]), (15, [.pointer none]), (16, [.pointer none]),
  (17, [.pointer none]), (18, [.pointer none]), (19, [.pointer none]), (20, [.nilIface]), (21, [.int .i32 0]), (22, [.slice none 0 0]), (23, [.slice none 0 0]),
  (24, [.int .i64 0, .slice none 0 0, .slice none 0 0, .slice none 0 0]), (25, [.int .i64 0, .slice none 0 0, .slice none 0 0, .slice none 0 0]), (26, [.nilFunc]),
  (27, [.nilFunc]), (28, [.slice none 0 0]), (29, [.nilFunc]), (30, [.slice none 0 0]), (31, [.slice none 0 0, .slice none 0 0]), (32, [.slice none 0 0, .slice none 0 0]),
  (33, [.nilFunc]), (34, [.int .u64 0]), (35, [.int .u64 0]), (36, [.nilFunc]), (37, [.int .u8 0]), (38, [.slice none 0 0]), (39, [.int .u8 0]), (40, [.int .u8 0, .int .i64 0, .bool false, .int .i32 0, .int .u64 0, .string ByteArray.empty, .slice none 0 0]),
  (41, [.int .u8 0, .int .i64 0, .bool false, .int .i32 0, .int .u64 0, .string ByteArray.empty, .slice none 0 0]), (42, [.int .u8 0, .int .i64 0, .string ByteArray.empty, .slice none 0 0, .int .u8 0, .int .i64 0, .bool false, .int .i32 0, .int .u64 0, .string ByteArray.empty, .slice none 0 0, .int .i32 0, .int .i32 0, .slice none 0 0, .slice none 0 0]),
  (43, [.int .u8 0, .int .i64 0, .string ByteArray.empty, .slice none 0 0, .int .u8 0, .int .i64 0, .bool false, .int .i32 0, .int .u64 0, .string ByteArray.empty, .slice none 0 0, .int .i32 0, .int .i32 0, .slice none 0 0, .slice none 0 0]),
  (44, [.nilFunc]), (45, [.nilFunc]), (47, [.nilFunc]), (48, [.nilFunc]), (49, [.nilFunc]), (50, [.nilFunc]), (51, [.nilFunc]), (52, [.int .u8 0]), (53, [.int .i64 0, .bool false, .string ByteArray.empty, .int .u8 0, .int .i64 0, .bool false, .int .u8 0, .int .i64 0, .bool false, .int .i32 0, .int .u64 0, .string ByteArray.empty, .slice none 0 0, .int .u8 0, .int .i64 0, .bool false, .int .i32 0, .int .u64 0, .string ByteArray.empty, .slice none 0 0]),
  (54, [.int .i64 0, .bool false, .string ByteArray.empty, .int .u8 0, .int .i64 0, .bool false, .int .u8 0, .int .i64 0, .bool false, .int .i32 0, .int .u64 0, .string ByteArray.empty, .slice none 0 0, .int .u8 0, .int .i64 0, .bool false, .int .i32 0, .int .u64 0, .string ByteArray.empty, .slice none 0 0]),
  (55, [.nilFunc]), (56, [.nilFunc]), (57, [.nilFunc]), (58, [.nilFunc]), (59, [.int .u64 0]), (60, [.int .u8 0]), (61, [.nilFunc]), (62, [.nilFunc]), (64, [.nilFunc]),
  (65, [.pointer none]), (66, [.pointer none]), (67, [.slice none 0 0]), (68, [.pointer none, .slice none 0 0]), (69, [.pointer none, .slice none 0 0]),
  (70, [.pointer none, .slice none 0 0, .int .i64 0]), (71, [.pointer none, .slice none 0 0, .int .i64 0]), (72, [.nilFunc]), (73, [.nilFunc]), (74, [.nilFunc]),
  (75, [.nilFunc]), (76, [.nilFunc]), (77, [.nilFunc]), (78, [.nilFunc]), (79, [.nilFunc]), (80, [.nilFunc]), (81, [.nilFunc]), (82, [.nilFunc]), (83, [.nilFunc]),
  (84, [.nilFunc]), (85, [.nilFunc]), (86, [.nilFunc]), (87, [.nilFunc]), (88, [.nilFunc]), (89, [.nilFunc]), (91, [.nilFunc]), (92, [.nilFunc]), (93, [.slice none 0 0]),
  (94, [.slice none 0 0]), (95, [.slice none 0 0, .slice none 0 0]), (96, [.slice none 0 0, .slice none 0 0]), (97, [.nilFunc]), (98, [.nilFunc]), (99, [.int .u8 0]),
  (101, [.nilFunc]), (102, [.nilFunc]), (103, [.nilFunc]), (104, [.int .u8 0]), (105, [.nilFunc]), (106, [.slice none 0 0, .slice none 0 0]), (107, [.nilFunc]),
  (108, [.nilFunc]), (109, [.nilFunc]), (110, [.nilFunc]), (111, [.nilFunc]), (112, [.nilFunc]), (113, [.nilFunc]), (114, [.pointer none]), (115, [.nilIface]),
  (116, [.nilIface]), (118, [.nilFunc]), (119, [.nilFunc]), (120, [.nilFunc]), (122, [.nilFunc]), (123, [.nilFunc]), (124, [.nilFunc]), (125, [.nilFunc]),
  (127, [.nilFunc]), (128, [.int .i64 0]), (130, [.nilFunc]), (131, [.nilFunc]), (132, [.nilFunc]), (133, [.int .u64 0, .int .u64 0]), (134, [.int .u64 0, .int .u64 0]),
  (135, [.bool false, .int .u64 0, .int .u64 0, .int .i64 0, .bool false]), (136, [.bool false, .int .u64 0, .int .u64 0, .int .i64 0, .bool false]), (137, [.nilFunc]),
  (139, [.nilFunc]), (141, [.nilFunc]), (142, [.int .u32 0]), (143, [.nilFunc]), (144, [.nilFunc]), (145, [.nilFunc]), (146, [.nilFunc]), (148, [.nilFunc]),
  (149, [.nilFunc]), (150, [.nilFunc]), (151, [.string ByteArray.empty, .string ByteArray.empty, .string ByteArray.empty, .string ByteArray.empty, .string ByteArray.empty, .string ByteArray.empty, .string ByteArray.empty, .string ByteArray.empty, .string ByteArray.empty, .string ByteArray.empty, .string ByteArray.empty, .string ByteArray.empty]),
  (152, [.nilFunc]), (154, [.nilFunc]), (156, [.nilFunc]), (157, [.nilFunc]), (159, [.nilFunc]), (160, [.nilFunc]), (161, [.nilFunc]), (163, [.nilFunc]),
  (164, [.nilFunc]), (165, [.nilFunc]), (166, [.nilFunc]), (167, [.nilFunc]), (171, [.nilFunc]), (172, [.nilFunc]), (173, [.pointer none]), (174, [.nilFunc]),
  (175, [.nilFunc]), (176, [.nilFunc]), (177, [.pointer none]), (178, [.nilFunc]), (179, [.int .u8 0, .int .u8 0, .int .u8 0, .int .u8 0, .int .u8 0, .int .u8 0, .int .u8 0, .int .u8 0, .int .u8 0, .int .u8 0, .int .u8 0, .int .u8 0, .int .u8 0, .int .u8 0, .int .u8 0, .int .u8 0, .int .u8 0, .int .u8 0, .int .u8 0, .int .u8 0, .int .u8 0, .int .u8 0, .int .u8 0, .int .u8 0]),
  (180, [.nilFunc]), (181, [.nilFunc]), (183, [.nilFunc]), (184, [.nilFunc]), (185, [.nilFunc]), (186, [.nilFunc]), (187, [.nilFunc]), (189, [.nilFunc]),
  (190, [.nilFunc]), (191, [.nilFunc]), (192, [.nilFunc]), (193, [.nilFunc]), (194, [.int .u64 0, .int .u64 0, .int .u64 0, .int .u64 0, .int .u64 0, .int .u64 0, .int .u64 0, .int .u64 0, .int .u64 0, .int .u64 0, .int .u64 0, .int .u64 0, .int .u64 0, .int .u64 0, .int .u64 0, .int .u64 0, .int .u64 0, .int .u64 0, .int .u64 0, .int .u64 0]),
  (196, [.nilFunc]), (197, [.nilFunc]), (198, [.nilFunc]), (199, [.nilFunc]), (200, [.nilFunc]), (201, [.int .u8 0, .int .u8 0, .int .u8 0, .int .u8 0, .int .u8 0, .int .u8 0, .int .u8 0, .int .u8 0, .int .u8 0, .int .u8 0, .int .u8 0, .int .u8 0, .int .u8 0, .int .u8 0, .int .u8 0, .int .u8 0, .int .u8 0, .int .u8 0, .int .u8 0, .int .u8 0, .int .u8 0, .int .u8 0, .int .u8 0, .int .u8 0, .int .u8 0, .int .u8 0, .int .u8 0, .int .u8 0, .int .u8 0, .int .u8 0, .int .u8 0, .int .u8 0]),
  (204, [.int .u8 0, .int .u8 0]), (205, [.int .u8 0, .int .u8 0]), (206, [.int .u8 0, .int .u8 0, .int .u8 0, .int .u8 0, .int .u8 0, .int .u8 0, .int .u8 0, .int .u8 0, .int .u8 0, .int .u8 0, .int .u8 0, .int .u8 0, .int .u8 0, .int .u8 0, .int .u8 0, .int .u8 0, .int .u8 0, .int .u8 0, .int .u8 0, .int .u8 0, .int .u8 0, .int .u8 0, .int .u8 0, .int .u8 0, .int .u8 0, .int .u8 0, .int .u8 0, .int .u8 0, .int .u8 0, .int .u8 0, .int .u8 0, .int .u8 0]),
  (207, [.pointer none, .pointer none, .pointer none, .string ByteArray.empty]), (208, [.pointer none, .pointer none, .pointer none, .string ByteArray.empty]),
  (209, []), (210, []), (211, []), (212, [.int .u8 0]), (213, [.int .u8 0]), (214, [.nilFunc]), (215, [.int .i32 0]), (216, [.int .i32 0]), (217, [.int .u64 0, .int .u64 0, .int .u32 0, .int .u8 0, .int .u8 0, .int .u8 0, .int .u8 0, .nilFunc, .pointer none, .int .i32 0, .int .i32 0]),
  (218, [.int .u64 0, .int .u64 0, .int .u32 0, .int .u8 0, .int .u8 0, .int .u8 0, .int .u8 0, .nilFunc, .pointer none, .int .i32 0, .int .i32 0])]
def goL : List Nat := [
  2, 3, 4, 5, 6, 7, 8, 9, 10, 11, 12, 13, 14, 15, 16, 17, 18, 19, 20, 21, 22, 23, 24, 25, 26, 27, 28, 29, 30, 31, 32, 33, 34, 35, 36, 37, 38, 39, 40, 41,
  42, 43, 44, 45, 46, 47, 48, 49, 50, 51, 52, 53, 54, 55, 56, 57, 58, 59, 60, 61, 62, 63, 64, 65, 66, 67, 68, 69, 70, 71, 72, 73, 74, 75, 76, 77, 78, 79,
  80, 81, 82, 83, 84, 85, 86, 87, 88, 89, 90, 91, 92, 93, 94, 95, 96, 97, 98, 99, 100, 101, 102, 103, 104, 105, 106, 107, 108, 109, 110, 111, 112, 113, 114,
  115, 116, 117, 118, 119, 120, 121, 123, 124, 125, 126, 128, 129, 130, 131, 132, 133, 134, 135, 136, 137, 138, 139, 140, 141, 142, 143, 144, 145, 146, 147,
  148, 150, 178]
theorem tyL_ok : (tyL.map fun p => Ty Tryz.prog p.1) = (tyL.map fun p => some p.2) := by kernel_rfl
theorem ikL_ok : (ikL.map fun p => Ik Tryz.prog p.1) = (ikL.map fun p => some p.2) := by kernel_rfl
theorem foL_ok : (foL.map fun p => Fo Tryz.prog p.1.1 p.1.2) = (foL.map fun p => some p.2) := by kernel_rfl
theorem elL_ok : (elL.map fun p => El Tryz.prog p.1) = (elL.map fun p => some p.2) := by kernel_rfl
theorem zeL_ok : (zeL.map fun p => Ze Tryz.prog p.1) = (zeL.map fun p => some p.2) := by kernel_rfl
theorem goL_ok : (goL.map fun p => goesB Tryz.prog p) = (goL.map fun _ => true) := by kernel_rfl
def goB : List Nat → Nat → Bool
  | [], _ => false
  | k :: l, f => Nat.beq k f || goB l f
theorem goB_ok {g : Nat → Bool} : ∀ (l : List Nat), (l.map fun p => g p) = (l.map fun _ => true) → ∀ f, goB l f = true → g f = true
  | [], _, f, h => by simp [goB] at h
  | k :: l, he, f, h => by
    simp only [List.map_cons, List.cons.injEq] at he
    simp only [goB, Bool.or_eq_true] at h
    rcases h with h | h
    · have := Nat.eq_of_beq_eq_true h; subst this; exact he.1
    · exact goB_ok l he.2 f h
def tb : Tabs Tryz.prog where
  ty := lkT tyL
  ty_ok := lkT_ok tyL tyL_ok
  ik := lkT ikL
  ik_ok := lkT_ok ikL ikL_ok
  fo := lkF foL
  fo_ok := lkF_ok foL foL_ok
  el := lkT elL
  el_ok := lkT_ok elL elL_ok
  ze := lkT zeL
  ze_ok := lkT_ok zeL zeL_ok
  go := goB goL
  go_ok := goB_ok goL goL_ok
theorem mo : Tryz.prog.follows .mixedOrders = true := by kernel_rfl
end Fly
