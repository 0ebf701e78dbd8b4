/-
  CONTRACTS OF THE FIXED CALLS: each is reckoned by the kernel over the lent blocks alone.
-/
import Derived.Test.YtdhakdifgcepoaaGreatDoorM08
/-
  CONTRACTS OF THE FIXED CALLS: each is reckoned by the kernel over the lent blocks alone.
-/
namespace Go.Cx
noncomputable section
open Go Go.Proofs Go.Conc
noncomputable def con13 : Con where
  f := 142
  lent := [.cells 372 0 (T.ofList []) false true,
   .cells 32 0 (T.ofList []) false true,
   .cells 32 0 (T.ofList []) false true,
   .cells 32 0 (T.ofList []) false true,
   .cells 32 0 (T.ofList []) false true,
   .cells 32 0 (T.ofList []) false true,
   .cells 539 64 (T.ofList (nums .u8 [0, 1, 56, 2, 57, 49, 28, 3, 61, 58, 42, 50, 38, 29, 17, 4, 62, 47, 59, 36, 45, 43, 51, 22, 53, 39, 33, 30, 24, 18, 12, 5, 63, 55, 48, 27, 60, 41, 37, 16, 46, 35, 44, 21, 52, 32, 23, 11, 54, 26, 40, 15, 34, 20, 31, 10, 25, 14, 19, 9, 13, 8, 7, 6])) false true]
  args := [.str [108, 101, 116]]
  v := .tuple [.slice (some (7, 0)) 4 4 true, .int .i64 0, .int .i64 0]
  blks := [.cells 306 32 (T.ofList [.int .i64 3, .int .i64 3, .int .u64 0, .int .u64 0, .int .u64 0, .int .u64 0, .int .i64 0, .int .i64 0, .int .i64 1, .int .i64 0, .int .u64 0, .int .u64 17592186044416, .int .u64 0, .int .u64 0, .int .i64 0, .int .i64 0, .int .i64 1, .int .i64 0, .int .u64 0, .int .u64 137438953472, .int .u64 0, .int .u64 0, .int .i64 0, .int .i64 0, .int .i64 1, .int .i64 0, .int .u64 0, .int .u64 4503599627370496, .int .u64 0, .int .u64 0, .int .i64 0, .int .i64 0]) true false]
noncomputable def tabs13 : List (FuncId × List Tab) := []
theorem tabs13_ok : TabsOk tabs13 := TabsOk.nil
theorem con13_run : conRun Q (orcX tabs13) 3000 con13.f con13.lent con13.args [41] = some (con13.v, con13.blks) := by kernel_rfl
theorem con13_at : conOk Q con13.f con13.lent con13.args [41] = true := by kernel_rfl
theorem con13_ok : con13.Ok Q := conRun_sound q_mixed (orcX_ok tabs13_ok) con13_run con13_at
noncomputable def con14 : Con where
  f := 142
  lent := [.cells 372 0 (T.ofList []) false true,
   .cells 32 0 (T.ofList []) false true,
   .cells 32 0 (T.ofList []) false true,
   .cells 32 0 (T.ofList []) false true,
   .cells 32 0 (T.ofList []) false true,
   .cells 32 0 (T.ofList []) false true,
   .cells 539 64 (T.ofList (nums .u8 [0, 1, 56, 2, 57, 49, 28, 3, 61, 58, 42, 50, 38, 29, 17, 4, 62, 47, 59, 36, 45, 43, 51, 22, 53, 39, 33, 30, 24, 18, 12, 5, 63, 55, 48, 27, 60, 41, 37, 16, 46, 35, 44, 21, 52, 32, 23, 11, 54, 26, 40, 15, 34, 20, 31, 10, 25, 14, 19, 9, 13, 8, 7, 6])) false true]
  args := [.str [91, 97, 45, 122, 93, 43]]
  v := .tuple [.slice (some (7, 0)) 2 2 true, .int .i64 0, .int .i64 0]
  blks := [.cells 306 16 (T.ofList [.int .i64 6, .int .i64 1, .int .u64 0, .int .u64 0, .int .u64 0, .int .u64 0, .int .i64 0, .int .i64 0, .int .i64 1, .int .i64 0, .int .u64 0, .int .u64 576460743713488896, .int .u64 0, .int .u64 0, .int .i64 0, .int .i64 0]) true false]
noncomputable def tabs14 : List (FuncId × List Tab) := []
theorem tabs14_ok : TabsOk tabs14 := TabsOk.nil
theorem con14_run : conRun Q (orcX tabs14) 3000 con14.f con14.lent con14.args [44] = some (con14.v, con14.blks) := by kernel_rfl
theorem con14_at : conOk Q con14.f con14.lent con14.args [44] = true := by kernel_rfl
theorem con14_ok : con14.Ok Q := conRun_sound q_mixed (orcX_ok tabs14_ok) con14_run con14_at
noncomputable def con15 : Con where
  f := 475
  lent := [.cells 372 0 (T.ofList []) false true,
   .cells 32 0 (T.ofList []) false true,
   .cells 32 0 (T.ofList []) false true,
   .cells 32 0 (T.ofList []) false true,
   .cells 32 0 (T.ofList []) false true,
   .cells 32 0 (T.ofList []) false true,
   .cells 539 64 (T.ofList (nums .u8 [0, 1, 56, 2, 57, 49, 28, 3, 61, 58, 42, 50, 38, 29, 17, 4, 62, 47, 59, 36, 45, 43, 51, 22, 53, 39, 33, 30, 24, 18, 12, 5, 63, 55, 48, 27, 60, 41, 37, 16, 46, 35, 44, 21, 52, 32, 23, 11, 54, 26, 40, 15, 34, 20, 31, 10, 25, 14, 19, 9, 13, 8, 7, 6])) false true,
   .cells 196 2 (T.ofList [.slice (some (8, 0)) 4 4 true, .slice (some (9, 0)) 2 2 true]) true true,
   .cells 306 32 (T.ofList [.int .i64 3, .int .i64 3, .int .u64 0, .int .u64 0, .int .u64 0, .int .u64 0, .int .i64 0, .int .i64 0, .int .i64 1, .int .i64 0, .int .u64 0, .int .u64 17592186044416, .int .u64 0, .int .u64 0, .int .i64 0, .int .i64 0, .int .i64 1, .int .i64 0, .int .u64 0, .int .u64 137438953472, .int .u64 0, .int .u64 0, .int .i64 0, .int .i64 0, .int .i64 1, .int .i64 0, .int .u64 0, .int .u64 4503599627370496, .int .u64 0, .int .u64 0, .int .i64 0, .int .i64 0]) true true,
   .cells 306 16 (T.ofList [.int .i64 6, .int .i64 1, .int .u64 0, .int .u64 0, .int .u64 0, .int .u64 0, .int .i64 0, .int .i64 0, .int .i64 1, .int .i64 0, .int .u64 0, .int .u64 576460743713488896, .int .u64 0, .int .u64 0, .int .i64 0, .int .i64 0]) true true]
  args := [.slice (some (7, 0)) 2 2 true]
  v := .tuple [.agg [.slice (some (10, 0)) 11 11 true, .int .i64 0, .slice (some (11, 0)) 11 11 true], .int .i64 0]
  blks := [.cells 570 11 (T.ofList [.slice (some (12, 0)) 2 2 true, .slice (some (13, 0)) 1 1 false, .slice (some (14, 0)) 1 1 true, .slice (some (15, 0)) 1 1 false, .slice (some (16, 0)) 1 1 true, .slice (some (17, 0)) 1 1 false, .slice none 0 0 false, .slice (some (18, 0)) 1 1 false, .slice (some (19, 0)) 2 2 true, .slice (some (20, 0)) 1 1 true, .slice none 0 0 false]) true false,
   .cells 3 11 (T.ofList [.int .i64 (-1), .int .i64 (-1), .int .i64 (-1), .int .i64 (-1), .int .i64 (-1), .int .i64 (-1), .int .i64 0, .int .i64 (-1), .int .i64 (-1), .int .i64 (-1), .int .i64 1]) true false,
   .cells 572 12 (T.ofList [.int .i64 1, .bool true, .int .u64 0, .int .u64 0, .int .u64 0, .int .u64 0, .int .i64 9, .bool true, .int .u64 0, .int .u64 0, .int .u64 0, .int .u64 0]) true false,
   .cells 572 6 (T.ofList [.int .i64 2, .bool false, .int .u64 0, .int .u64 17592186044416, .int .u64 0, .int .u64 0]) false false,
   .cells 572 6 (T.ofList [.int .i64 3, .bool true, .int .u64 0, .int .u64 0, .int .u64 0, .int .u64 0]) true false,
   .cells 572 6 (T.ofList [.int .i64 4, .bool false, .int .u64 0, .int .u64 137438953472, .int .u64 0, .int .u64 0]) false false,
   .cells 572 6 (T.ofList [.int .i64 5, .bool true, .int .u64 0, .int .u64 0, .int .u64 0, .int .u64 0]) true false,
   .cells 572 6 (T.ofList [.int .i64 6, .bool false, .int .u64 0, .int .u64 4503599627370496, .int .u64 0, .int .u64 0]) false false,
   .cells 572 6 (T.ofList [.int .i64 8, .bool false, .int .u64 0, .int .u64 576460743713488896, .int .u64 0, .int .u64 0]) false false,
   .cells 572 12 (T.ofList [.int .i64 10, .bool true, .int .u64 0, .int .u64 0, .int .u64 0, .int .u64 0, .int .i64 7, .bool true, .int .u64 0, .int .u64 0, .int .u64 0, .int .u64 0]) true false,
   .cells 572 6 (T.ofList [.int .i64 7, .bool true, .int .u64 0, .int .u64 0, .int .u64 0, .int .u64 0]) true false]
noncomputable def tabs15 : List (FuncId × List Tab) := []
theorem tabs15_ok : TabsOk tabs15 := TabsOk.nil
theorem con15_run : conRun Q (orcX tabs15) 3000 con15.f con15.lent con15.args [160, 162, 172, 83, 124, 100, 127, 117, 151, 169, 165] = some (con15.v, con15.blks) := by kernel_rfl
theorem con15_at : conOk Q con15.f con15.lent con15.args [160, 162, 172, 83, 124, 100, 127, 117, 151, 169, 165] = true := by kernel_rfl
theorem con15_ok : con15.Ok Q := conRun_sound q_mixed (orcX_ok tabs15_ok) con15_run con15_at
noncomputable def con16 : Con where
  f := 510
  lent := [.cells 372 0 (T.ofList []) false true,
   .cells 32 0 (T.ofList []) false true,
   .cells 32 0 (T.ofList []) false true,
   .cells 32 0 (T.ofList []) false true,
   .cells 32 0 (T.ofList []) false true,
   .cells 32 0 (T.ofList []) false true,
   .cells 539 64 (T.ofList (nums .u8 [0, 1, 56, 2, 57, 49, 28, 3, 61, 58, 42, 50, 38, 29, 17, 4, 62, 47, 59, 36, 45, 43, 51, 22, 53, 39, 33, 30, 24, 18, 12, 5, 63, 55, 48, 27, 60, 41, 37, 16, 46, 35, 44, 21, 52, 32, 23, 11, 54, 26, 40, 15, 34, 20, 31, 10, 25, 14, 19, 9, 13, 8, 7, 6])) false true,
   .cells 570 11 (T.ofList [.slice (some (9, 0)) 2 2 true, .slice (some (10, 0)) 1 1 false, .slice (some (11, 0)) 1 1 true, .slice (some (12, 0)) 1 1 false, .slice (some (13, 0)) 1 1 true, .slice (some (14, 0)) 1 1 false, .slice none 0 0 false, .slice (some (15, 0)) 1 1 false, .slice (some (16, 0)) 2 2 true, .slice (some (17, 0)) 1 1 true, .slice none 0 0 false]) true true,
   .cells 3 11 (T.ofList [.int .i64 (-1), .int .i64 (-1), .int .i64 (-1), .int .i64 (-1), .int .i64 (-1), .int .i64 (-1), .int .i64 0, .int .i64 (-1), .int .i64 (-1), .int .i64 (-1), .int .i64 1]) true true,
   .cells 572 12 (T.ofList [.int .i64 1, .bool true, .int .u64 0, .int .u64 0, .int .u64 0, .int .u64 0, .int .i64 9, .bool true, .int .u64 0, .int .u64 0, .int .u64 0, .int .u64 0]) true true,
   .cells 572 6 (T.ofList [.int .i64 2, .bool false, .int .u64 0, .int .u64 17592186044416, .int .u64 0, .int .u64 0]) false true,
   .cells 572 6 (T.ofList [.int .i64 3, .bool true, .int .u64 0, .int .u64 0, .int .u64 0, .int .u64 0]) true true,
   .cells 572 6 (T.ofList [.int .i64 4, .bool false, .int .u64 0, .int .u64 137438953472, .int .u64 0, .int .u64 0]) false true,
   .cells 572 6 (T.ofList [.int .i64 5, .bool true, .int .u64 0, .int .u64 0, .int .u64 0, .int .u64 0]) true true,
   .cells 572 6 (T.ofList [.int .i64 6, .bool false, .int .u64 0, .int .u64 4503599627370496, .int .u64 0, .int .u64 0]) false true,
   .cells 572 6 (T.ofList [.int .i64 8, .bool false, .int .u64 0, .int .u64 576460743713488896, .int .u64 0, .int .u64 0]) false true,
   .cells 572 12 (T.ofList [.int .i64 10, .bool true, .int .u64 0, .int .u64 0, .int .u64 0, .int .u64 0, .int .i64 7, .bool true, .int .u64 0, .int .u64 0, .int .u64 0, .int .u64 0]) true true,
   .cells 572 6 (T.ofList [.int .i64 7, .bool true, .int .u64 0, .int .u64 0, .int .u64 0, .int .u64 0]) true true]
  args := [.agg [.slice (some (7, 0)) 11 11 true, .int .i64 0, .slice (some (8, 0)) 11 11 true]]
  v := .tuple [.agg (nums .i64 [0, 0, 0, 0, 0, 0, 0, 0, 0, 0, 0, 0, 0, 0, 0, 0, 0, 0, 0, 0, 0, 0, 0, 0, 0, 0, 0, 0, 0, 0, 0, 0, 0, 0, 0, 0, 0, 0, 0, 0, 0, 0, 0, 0, 0, 0, 0, 0, 0, 0, 0, 0, 0, 0, 0, 0, 0, 0, 0, 0, 0, 0, 0, 0, 0, 0, 0, 0, 0, 0, 0, 0, 0, 0, 0, 0, 0, 0, 0, 0, 0, 0, 0, 0, 0, 0, 0, 0, 0, 0, 0, 0, 0, 0, 0, 0, 0, 1, 1, 1, 1, 2, 1, 1, 1, 1, 1, 1, 3, 1, 1, 1, 1, 1, 1, 1, 4, 1, 1, 1, 1, 1, 1, 0, 0, 0, 0, 0, 0, 0, 0, 0, 0, 0, 0, 0, 0, 0, 0, 0, 0, 0, 0, 0, 0, 0, 0, 0, 0, 0, 0, 0, 0, 0, 0, 0, 0, 0, 0, 0, 0, 0, 0, 0, 0, 0, 0, 0, 0, 0, 0, 0, 0, 0, 0, 0, 0, 0, 0, 0, 0, 0, 0, 0, 0, 0, 0, 0, 0, 0, 0, 0, 0, 0, 0, 0, 0, 0, 0, 0, 0, 0, 0, 0, 0, 0, 0, 0, 0, 0, 0, 0, 0, 0, 0, 0, 0, 0, 0, 0, 0, 0, 0, 0, 0, 0, 0, 0, 0, 0, 0, 0, 0, 0, 0, 0, 0, 0, 0, 0, 0, 0, 0, 0, 0, 0, 0, 0, 0, 0, 0, 0, 0, 0, 0, 0]), .int .i64 5]
  blks := []
noncomputable def tabs16 : List (FuncId × List Tab) := []
theorem tabs16_ok : TabsOk tabs16 := TabsOk.nil
theorem con16_run : conRun Q (orcX tabs16) 3000 con16.f con16.lent con16.args [] = some (con16.v, con16.blks) := by kernel_rfl
theorem con16_at : conOk Q con16.f con16.lent con16.args [] = true := by kernel_rfl
theorem con16_ok : con16.Ok Q := conRun_sound q_mixed (orcX_ok tabs16_ok) con16_run con16_at
noncomputable def con17 : Con where
  f := 509
  lent := [.cells 372 0 (T.ofList []) false true,
   .cells 32 0 (T.ofList []) false true,
   .cells 32 0 (T.ofList []) false true,
   .cells 32 0 (T.ofList []) false true,
   .cells 32 0 (T.ofList []) false true,
   .cells 32 0 (T.ofList []) false true,
   .cells 539 64 (T.ofList (nums .u8 [0, 1, 56, 2, 57, 49, 28, 3, 61, 58, 42, 50, 38, 29, 17, 4, 62, 47, 59, 36, 45, 43, 51, 22, 53, 39, 33, 30, 24, 18, 12, 5, 63, 55, 48, 27, 60, 41, 37, 16, 46, 35, 44, 21, 52, 32, 23, 11, 54, 26, 40, 15, 34, 20, 31, 10, 25, 14, 19, 9, 13, 8, 7, 6])) false true,
   .cells 570 11 (T.ofList [.slice (some (9, 0)) 2 2 true, .slice (some (10, 0)) 1 1 false, .slice (some (11, 0)) 1 1 true, .slice (some (12, 0)) 1 1 false, .slice (some (13, 0)) 1 1 true, .slice (some (14, 0)) 1 1 false, .slice none 0 0 false, .slice (some (15, 0)) 1 1 false, .slice (some (16, 0)) 2 2 true, .slice (some (17, 0)) 1 1 true, .slice none 0 0 false]) true true,
   .cells 3 11 (T.ofList [.int .i64 (-1), .int .i64 (-1), .int .i64 (-1), .int .i64 (-1), .int .i64 (-1), .int .i64 (-1), .int .i64 0, .int .i64 (-1), .int .i64 (-1), .int .i64 (-1), .int .i64 1]) true true,
   .cells 572 12 (T.ofList [.int .i64 1, .bool true, .int .u64 0, .int .u64 0, .int .u64 0, .int .u64 0, .int .i64 9, .bool true, .int .u64 0, .int .u64 0, .int .u64 0, .int .u64 0]) true true,
   .cells 572 6 (T.ofList [.int .i64 2, .bool false, .int .u64 0, .int .u64 17592186044416, .int .u64 0, .int .u64 0]) false true,
   .cells 572 6 (T.ofList [.int .i64 3, .bool true, .int .u64 0, .int .u64 0, .int .u64 0, .int .u64 0]) true true,
   .cells 572 6 (T.ofList [.int .i64 4, .bool false, .int .u64 0, .int .u64 137438953472, .int .u64 0, .int .u64 0]) false true,
   .cells 572 6 (T.ofList [.int .i64 5, .bool true, .int .u64 0, .int .u64 0, .int .u64 0, .int .u64 0]) true true,
   .cells 572 6 (T.ofList [.int .i64 6, .bool false, .int .u64 0, .int .u64 4503599627370496, .int .u64 0, .int .u64 0]) false true,
   .cells 572 6 (T.ofList [.int .i64 8, .bool false, .int .u64 0, .int .u64 576460743713488896, .int .u64 0, .int .u64 0]) false true,
   .cells 572 12 (T.ofList [.int .i64 10, .bool true, .int .u64 0, .int .u64 0, .int .u64 0, .int .u64 0, .int .i64 7, .bool true, .int .u64 0, .int .u64 0, .int .u64 0, .int .u64 0]) true true,
   .cells 572 6 (T.ofList [.int .i64 7, .bool true, .int .u64 0, .int .u64 0, .int .u64 0, .int .u64 0]) true true]
  args := [.agg [.slice (some (7, 0)) 11 11 true, .int .i64 0, .slice (some (8, 0)) 11 11 true]]
  v := .tuple [.agg (nums .i64 [0, 0, 0, 0, 0, 0, 0, 0, 0, 0, 0, 0, 0, 0, 0, 0, 0, 0, 0, 0, 0, 0, 0, 0, 0, 0, 0, 0, 0, 0, 0, 0, 0, 0, 0, 0, 0, 0, 0, 0, 0, 0, 0, 0, 0, 0, 0, 0, 0, 0, 0, 0, 0, 0, 0, 0, 0, 0, 0, 0, 0, 0, 0, 0, 0, 0, 0, 0, 0, 0, 0, 0, 0, 0, 0, 0, 0, 0, 0, 0, 0, 0, 0, 0, 0, 0, 0, 0, 0, 0, 0, 0, 0, 0, 0, 0, 0, 1, 1, 1, 1, 2, 1, 1, 1, 1, 1, 1, 3, 1, 1, 1, 1, 1, 1, 1, 4, 1, 1, 1, 1, 1, 1, 0, 0, 0, 0, 0, 0, 0, 0, 0, 0, 0, 0, 0, 0, 0, 0, 0, 0, 0, 0, 0, 0, 0, 0, 0, 0, 0, 0, 0, 0, 0, 0, 0, 0, 0, 0, 0, 0, 0, 0, 0, 0, 0, 0, 0, 0, 0, 0, 0, 0, 0, 0, 0, 0, 0, 0, 0, 0, 0, 0, 0, 0, 0, 0, 0, 0, 0, 0, 0, 0, 0, 0, 0, 0, 0, 0, 0, 0, 0, 0, 0, 0, 0, 0, 0, 0, 0, 0, 0, 0, 0, 0, 0, 0, 0, 0, 0, 0, 0, 0, 0, 0, 0, 0, 0, 0, 0, 0, 0, 0, 0, 0, 0, 0, 0, 0, 0, 0, 0, 0, 0, 0, 0, 0, 0, 0, 0, 0, 0, 0, 0, 0, 0] ++ [.slice (some (18, 0)) 6 6 true, .slice (some (19, 0)) 6 6 true]), .int .i64 0]
  blks := [.cells 39 6 (T.ofList [.slice (some (20, 0)) 5 5 false, .slice (some (21, 0)) 5 5 false, .slice (some (22, 0)) 5 5 false, .slice (some (23, 0)) 5 5 false, .slice (some (24, 0)) 5 5 false, .slice (some (25, 0)) 5 5 false]) true false,
   .cells 3 6 (T.ofList [.int .i64 (-1), .int .i64 (-1), .int .i64 1, .int .i64 1, .int .i64 1, .int .i64 0]) true false,
   .cells 3 5 (T.ofList [.int .i64 1, .int .i64 2, .int .i64 2, .int .i64 3, .int .i64 2]) false false,
   .cells 3 5 (T.ofList [.int .i64 1, .int .i64 1, .int .i64 1, .int .i64 1, .int .i64 1]) false false,
   .cells 3 5 (T.ofList [.int .i64 1, .int .i64 2, .int .i64 2, .int .i64 2, .int .i64 2]) false false,
   .cells 3 5 (T.ofList [.int .i64 1, .int .i64 2, .int .i64 4, .int .i64 2, .int .i64 2]) false false,
   .cells 3 5 (T.ofList [.int .i64 1, .int .i64 2, .int .i64 2, .int .i64 2, .int .i64 5]) false false,
   .cells 3 5 (T.ofList [.int .i64 1, .int .i64 2, .int .i64 2, .int .i64 2, .int .i64 2]) false false]
noncomputable def tabs17 : List (FuncId × List Tab) := [(510, [{ c := con16, g := 7, deep := 400 }])]
theorem tabs17_ok : TabsOk tabs17 := (TabsOk.cons (RowOk.cons (tabOk con16_ok 400) (RowOk.nil 510)) TabsOk.nil)
theorem con17_run : conRun Q (orcX tabs17) 3000 con17.f con17.lent con17.args [1435, 1437, 71, 340, 435, 660, 935, 1203] = some (con17.v, con17.blks) := by kernel_rfl
theorem con17_at : conOk Q con17.f con17.lent con17.args [1435, 1437, 71, 340, 435, 660, 935, 1203] = true := by kernel_rfl
theorem con17_ok : con17.Ok Q := conRun_sound q_mixed (orcX_ok tabs17_ok) con17_run con17_at
noncomputable def con18 : Con where
  f := 527
  lent := [.cells 372 0 (T.ofList []) false true,
   .cells 32 0 (T.ofList []) false true,
   .cells 32 0 (T.ofList []) false true,
   .cells 32 0 (T.ofList []) false true,
   .cells 32 0 (T.ofList []) false true,
   .cells 32 0 (T.ofList []) false true,
   .cells 539 64 (T.ofList (nums .u8 [0, 1, 56, 2, 57, 49, 28, 3, 61, 58, 42, 50, 38, 29, 17, 4, 62, 47, 59, 36, 45, 43, 51, 22, 53, 39, 33, 30, 24, 18, 12, 5, 63, 55, 48, 27, 60, 41, 37, 16, 46, 35, 44, 21, 52, 32, 23, 11, 54, 26, 40, 15, 34, 20, 31, 10, 25, 14, 19, 9, 13, 8, 7, 6])) false true,
   .cells 39 6 (T.ofList [.slice (some (10, 0)) 5 5 false, .slice (some (11, 0)) 5 5 false, .slice (some (12, 0)) 5 5 false, .slice (some (13, 0)) 5 5 false, .slice (some (14, 0)) 5 5 false, .slice (some (15, 0)) 5 5 false]) true true,
   .cells 3 6 (T.ofList [.int .i64 (-1), .int .i64 (-1), .int .i64 1, .int .i64 1, .int .i64 1, .int .i64 0]) true true,
   .cells 39 6 (T.ofList [.slice (some (16, 0)) 5 5 true, .slice (some (17, 0)) 5 5 true, .slice (some (18, 0)) 5 5 true, .slice (some (19, 0)) 5 5 true, .slice (some (20, 0)) 5 5 true, .slice (some (21, 0)) 5 5 true]) true true,
   .cells 3 5 (T.ofList [.int .i64 1, .int .i64 2, .int .i64 2, .int .i64 3, .int .i64 2]) false true,
   .cells 3 5 (T.ofList [.int .i64 1, .int .i64 1, .int .i64 1, .int .i64 1, .int .i64 1]) false true,
   .cells 3 5 (T.ofList [.int .i64 1, .int .i64 2, .int .i64 2, .int .i64 2, .int .i64 2]) false true,
   .cells 3 5 (T.ofList [.int .i64 1, .int .i64 2, .int .i64 4, .int .i64 2, .int .i64 2]) false true,
   .cells 3 5 (T.ofList [.int .i64 1, .int .i64 2, .int .i64 2, .int .i64 2, .int .i64 5]) false true,
   .cells 3 5 (T.ofList [.int .i64 1, .int .i64 2, .int .i64 2, .int .i64 2, .int .i64 2]) false true,
   .cells 3 5 (T.ofList [.int .i64 1, .int .i64 2, .int .i64 2, .int .i64 3, .int .i64 2]) true true,
   .cells 3 5 (T.ofList [.int .i64 1, .int .i64 1, .int .i64 1, .int .i64 1, .int .i64 1]) true true,
   .cells 3 5 (T.ofList [.int .i64 1, .int .i64 2, .int .i64 2, .int .i64 2, .int .i64 2]) true true,
   .cells 3 5 (T.ofList [.int .i64 1, .int .i64 2, .int .i64 4, .int .i64 2, .int .i64 2]) true true,
   .cells 3 5 (T.ofList [.int .i64 1, .int .i64 2, .int .i64 2, .int .i64 2, .int .i64 5]) true true,
   .cells 3 5 (T.ofList [.int .i64 1, .int .i64 2, .int .i64 2, .int .i64 2, .int .i64 2]) true true]
  args := [.agg (nums .i64 [0, 0, 0, 0, 0, 0, 0, 0, 0, 0, 0, 0, 0, 0, 0, 0, 0, 0, 0, 0, 0, 0, 0, 0, 0, 0, 0, 0, 0, 0, 0, 0, 0, 0, 0, 0, 0, 0, 0, 0, 0, 0, 0, 0, 0, 0, 0, 0, 0, 0, 0, 0, 0, 0, 0, 0, 0, 0, 0, 0, 0, 0, 0, 0, 0, 0, 0, 0, 0, 0, 0, 0, 0, 0, 0, 0, 0, 0, 0, 0, 0, 0, 0, 0, 0, 0, 0, 0, 0, 0, 0, 0, 0, 0, 0, 0, 0, 1, 1, 1, 1, 2, 1, 1, 1, 1, 1, 1, 3, 1, 1, 1, 1, 1, 1, 1, 4, 1, 1, 1, 1, 1, 1, 0, 0, 0, 0, 0, 0, 0, 0, 0, 0, 0, 0, 0, 0, 0, 0, 0, 0, 0, 0, 0, 0, 0, 0, 0, 0, 0, 0, 0, 0, 0, 0, 0, 0, 0, 0, 0, 0, 0, 0, 0, 0, 0, 0, 0, 0, 0, 0, 0, 0, 0, 0, 0, 0, 0, 0, 0, 0, 0, 0, 0, 0, 0, 0, 0, 0, 0, 0, 0, 0, 0, 0, 0, 0, 0, 0, 0, 0, 0, 0, 0, 0, 0, 0, 0, 0, 0, 0, 0, 0, 0, 0, 0, 0, 0, 0, 0, 0, 0, 0, 0, 0, 0, 0, 0, 0, 0, 0, 0, 0, 0, 0, 0, 0, 0, 0, 0, 0, 0, 0, 0, 0, 0, 0, 0, 0, 0, 0, 0, 0, 0, 0, 0] ++ [.slice (some (7, 0)) 6 6 true, .slice (some (8, 0)) 6 6 true]), .slice (some (9, 0)) 6 6 true]
  v := .tuple [.slice (some (22, 0)) 5 5 true, .agg (nums .i64 [0, 0, 0, 0, 0, 0, 0, 0, 0, 0, 0, 0, 0, 0, 0, 0, 0, 0, 0, 0, 0, 0, 0, 0, 0, 0, 0, 0, 0, 0, 0, 0, 0, 0, 0, 0, 0, 0, 0, 0, 0, 0, 0, 0, 0, 0, 0, 0, 0, 0, 0, 0, 0, 0, 0, 0, 0, 0, 0, 0, 0, 0, 0, 0, 0, 0, 0, 0, 0, 0, 0, 0, 0, 0, 0, 0, 0, 0, 0, 0, 0, 0, 0, 0, 0, 0, 0, 0, 0, 0, 0, 0, 0, 0, 0, 0, 0, 1, 1, 1, 1, 2, 1, 1, 1, 1, 1, 1, 3, 1, 1, 1, 1, 1, 1, 1, 4, 1, 1, 1, 1, 1, 1, 0, 0, 0, 0, 0, 0, 0, 0, 0, 0, 0, 0, 0, 0, 0, 0, 0, 0, 0, 0, 0, 0, 0, 0, 0, 0, 0, 0, 0, 0, 0, 0, 0, 0, 0, 0, 0, 0, 0, 0, 0, 0, 0, 0, 0, 0, 0, 0, 0, 0, 0, 0, 0, 0, 0, 0, 0, 0, 0, 0, 0, 0, 0, 0, 0, 0, 0, 0, 0, 0, 0, 0, 0, 0, 0, 0, 0, 0, 0, 0, 0, 0, 0, 0, 0, 0, 0, 0, 0, 0, 0, 0, 0, 0, 0, 0, 0, 0, 0, 0, 0, 0, 0, 0, 0, 0, 0, 0, 0, 0, 0, 0, 0, 0, 0, 0, 0, 0, 0, 0, 0, 0, 0, 0, 0, 0, 0, 0, 0, 0, 0, 0, 0])]
  blks := [.cells 3 5 (T.ofList [.int .i64 0, .int .i64 1, .int .i64 2, .int .i64 3, .int .i64 4]) true false]
noncomputable def tabs18 : List (FuncId × List Tab) := []
theorem tabs18_ok : TabsOk tabs18 := TabsOk.nil
theorem con18_run : conRun Q (orcX tabs18) 3000 con18.f con18.lent con18.args [1439] = some (con18.v, con18.blks) := by kernel_rfl
theorem con18_at : conOk Q con18.f con18.lent con18.args [1439] = true := by kernel_rfl
theorem con18_ok : con18.Ok Q := conRun_sound q_mixed (orcX_ok tabs18_ok) con18_run con18_at
noncomputable def con19 : Con where
  f := 524
  lent := [.cells 372 0 (T.ofList []) false true,
   .cells 32 0 (T.ofList []) false true,
   .cells 32 0 (T.ofList []) false true,
   .cells 32 0 (T.ofList []) false true,
   .cells 32 0 (T.ofList []) false true,
   .cells 32 0 (T.ofList []) false true,
   .cells 539 64 (T.ofList (nums .u8 [0, 1, 56, 2, 57, 49, 28, 3, 61, 58, 42, 50, 38, 29, 17, 4, 62, 47, 59, 36, 45, 43, 51, 22, 53, 39, 33, 30, 24, 18, 12, 5, 63, 55, 48, 27, 60, 41, 37, 16, 46, 35, 44, 21, 52, 32, 23, 11, 54, 26, 40, 15, 34, 20, 31, 10, 25, 14, 19, 9, 13, 8, 7, 6])) false true,
   .cells 39 6 (T.ofList [.slice (some (9, 0)) 5 5 false, .slice (some (10, 0)) 5 5 false, .slice (some (11, 0)) 5 5 false, .slice (some (12, 0)) 5 5 false, .slice (some (13, 0)) 5 5 false, .slice (some (14, 0)) 5 5 false]) true true,
   .cells 3 6 (T.ofList [.int .i64 (-1), .int .i64 (-1), .int .i64 1, .int .i64 1, .int .i64 1, .int .i64 0]) true true,
   .cells 3 5 (T.ofList [.int .i64 1, .int .i64 2, .int .i64 2, .int .i64 3, .int .i64 2]) false true,
   .cells 3 5 (T.ofList [.int .i64 1, .int .i64 1, .int .i64 1, .int .i64 1, .int .i64 1]) false true,
   .cells 3 5 (T.ofList [.int .i64 1, .int .i64 2, .int .i64 2, .int .i64 2, .int .i64 2]) false true,
   .cells 3 5 (T.ofList [.int .i64 1, .int .i64 2, .int .i64 4, .int .i64 2, .int .i64 2]) false true,
   .cells 3 5 (T.ofList [.int .i64 1, .int .i64 2, .int .i64 2, .int .i64 2, .int .i64 5]) false true,
   .cells 3 5 (T.ofList [.int .i64 1, .int .i64 2, .int .i64 2, .int .i64 2, .int .i64 2]) false true]
  args := [.agg (nums .i64 [0, 0, 0, 0, 0, 0, 0, 0, 0, 0, 0, 0, 0, 0, 0, 0, 0, 0, 0, 0, 0, 0, 0, 0, 0, 0, 0, 0, 0, 0, 0, 0, 0, 0, 0, 0, 0, 0, 0, 0, 0, 0, 0, 0, 0, 0, 0, 0, 0, 0, 0, 0, 0, 0, 0, 0, 0, 0, 0, 0, 0, 0, 0, 0, 0, 0, 0, 0, 0, 0, 0, 0, 0, 0, 0, 0, 0, 0, 0, 0, 0, 0, 0, 0, 0, 0, 0, 0, 0, 0, 0, 0, 0, 0, 0, 0, 0, 1, 1, 1, 1, 2, 1, 1, 1, 1, 1, 1, 3, 1, 1, 1, 1, 1, 1, 1, 4, 1, 1, 1, 1, 1, 1, 0, 0, 0, 0, 0, 0, 0, 0, 0, 0, 0, 0, 0, 0, 0, 0, 0, 0, 0, 0, 0, 0, 0, 0, 0, 0, 0, 0, 0, 0, 0, 0, 0, 0, 0, 0, 0, 0, 0, 0, 0, 0, 0, 0, 0, 0, 0, 0, 0, 0, 0, 0, 0, 0, 0, 0, 0, 0, 0, 0, 0, 0, 0, 0, 0, 0, 0, 0, 0, 0, 0, 0, 0, 0, 0, 0, 0, 0, 0, 0, 0, 0, 0, 0, 0, 0, 0, 0, 0, 0, 0, 0, 0, 0, 0, 0, 0, 0, 0, 0, 0, 0, 0, 0, 0, 0, 0, 0, 0, 0, 0, 0, 0, 0, 0, 0, 0, 0, 0, 0, 0, 0, 0, 0, 0, 0, 0, 0, 0, 0, 0, 0, 0] ++ [.slice (some (7, 0)) 6 6 true, .slice (some (8, 0)) 6 6 true])]
  v := .tuple [.agg (nums .i64 [0, 0, 0, 0, 0, 0, 0, 0, 0, 0, 0, 0, 0, 0, 0, 0, 0, 0, 0, 0, 0, 0, 0, 0, 0, 0, 0, 0, 0, 0, 0, 0, 0, 0, 0, 0, 0, 0, 0, 0, 0, 0, 0, 0, 0, 0, 0, 0, 0, 0, 0, 0, 0, 0, 0, 0, 0, 0, 0, 0, 0, 0, 0, 0, 0, 0, 0, 0, 0, 0, 0, 0, 0, 0, 0, 0, 0, 0, 0, 0, 0, 0, 0, 0, 0, 0, 0, 0, 0, 0, 0, 0, 0, 0, 0, 0, 0, 1, 1, 1, 1, 2, 1, 1, 1, 1, 1, 1, 3, 1, 1, 1, 1, 1, 1, 1, 4, 1, 1, 1, 1, 1, 1, 0, 0, 0, 0, 0, 0, 0, 0, 0, 0, 0, 0, 0, 0, 0, 0, 0, 0, 0, 0, 0, 0, 0, 0, 0, 0, 0, 0, 0, 0, 0, 0, 0, 0, 0, 0, 0, 0, 0, 0, 0, 0, 0, 0, 0, 0, 0, 0, 0, 0, 0, 0, 0, 0, 0, 0, 0, 0, 0, 0, 0, 0, 0, 0, 0, 0, 0, 0, 0, 0, 0, 0, 0, 0, 0, 0, 0, 0, 0, 0, 0, 0, 0, 0, 0, 0, 0, 0, 0, 0, 0, 0, 0, 0, 0, 0, 0, 0, 0, 0, 0, 0, 0, 0, 0, 0, 0, 0, 0, 0, 0, 0, 0, 0, 0, 0, 0, 0, 0, 0, 0, 0, 0, 0, 0, 0, 0, 0, 0, 0, 0, 0, 0] ++ [.slice (some (15, 0)) 6 6 true, .slice (some (16, 0)) 6 6 true]), .int .i64 0]
  blks := [.cells 39 6 (T.ofList [.slice (some (17, 0)) 5 5 true, .slice (some (18, 0)) 5 5 true, .slice (some (19, 0)) 5 5 true, .slice (some (20, 0)) 5 5 true, .slice (some (21, 0)) 5 5 true, .slice (some (22, 0)) 5 5 true]) true false,
   .cells 3 6 (T.ofList [.int .i64 (-1), .int .i64 (-1), .int .i64 1, .int .i64 1, .int .i64 1, .int .i64 0]) true false,
   .cells 3 5 (T.ofList [.int .i64 1, .int .i64 2, .int .i64 2, .int .i64 3, .int .i64 2]) true false,
   .cells 3 5 (T.ofList [.int .i64 1, .int .i64 1, .int .i64 1, .int .i64 1, .int .i64 1]) true false,
   .cells 3 5 (T.ofList [.int .i64 1, .int .i64 2, .int .i64 2, .int .i64 2, .int .i64 2]) true false,
   .cells 3 5 (T.ofList [.int .i64 1, .int .i64 2, .int .i64 4, .int .i64 2, .int .i64 2]) true false,
   .cells 3 5 (T.ofList [.int .i64 1, .int .i64 2, .int .i64 2, .int .i64 2, .int .i64 5]) true false,
   .cells 3 5 (T.ofList [.int .i64 1, .int .i64 2, .int .i64 2, .int .i64 2, .int .i64 2]) true false]
noncomputable def tabs19 : List (FuncId × List Tab) := [(527, [{ c := con18, g := 7, deep := 400 }])]
theorem tabs19_ok : TabsOk tabs19 := (TabsOk.cons (RowOk.cons (tabOk con18_ok 400) (RowOk.nil 527)) TabsOk.nil)
theorem con19_run : conRun Q (orcX tabs19) 3000 con19.f con19.lent con19.args [429, 355, 367, 379, 391, 403, 415, 427] = some (con19.v, con19.blks) := by kernel_rfl
theorem con19_at : conOk Q con19.f con19.lent con19.args [429, 355, 367, 379, 391, 403, 415, 427] = true := by kernel_rfl
theorem con19_ok : con19.Ok Q := conRun_sound q_mixed (orcX_ok tabs19_ok) con19_run con19_at
noncomputable def con20 : Con where
  f := 17
  lent := [.cells 372 0 (T.ofList []) false true,
   .cells 32 0 (T.ofList []) false true,
   .cells 32 0 (T.ofList []) false true,
   .cells 32 0 (T.ofList []) false true,
   .cells 32 0 (T.ofList []) false true,
   .cells 32 0 (T.ofList []) false true,
   .cells 539 64 (T.ofList (nums .u8 [0, 1, 56, 2, 57, 49, 28, 3, 61, 58, 42, 50, 38, 29, 17, 4, 62, 47, 59, 36, 45, 43, 51, 22, 53, 39, 33, 30, 24, 18, 12, 5, 63, 55, 48, 27, 60, 41, 37, 16, 46, 35, 44, 21, 52, 32, 23, 11, 54, 26, 40, 15, 34, 20, 31, 10, 25, 14, 19, 9, 13, 8, 7, 6])) false true]
  args := [.str [108, 101, 116, 32, 61, 32, 108, 101, 116, 10, 119, 111, 114, 100, 32, 61, 32, 91, 97, 45, 122, 93, 43, 10]]
  v := .tuple [.slice (some (7, 0)) 2 2 true, .agg (nums .i64 [0, 0, 0, 0, 0, 0, 0, 0, 0, 0, 0, 0, 0, 0, 0, 0, 0, 0, 0, 0, 0, 0, 0, 0, 0, 0, 0, 0, 0, 0, 0, 0, 0, 0, 0, 0, 0, 0, 0, 0, 0, 0, 0, 0, 0, 0, 0, 0, 0, 0, 0, 0, 0, 0, 0, 0, 0, 0, 0, 0, 0, 0, 0, 0, 0, 0, 0, 0, 0, 0, 0, 0, 0, 0, 0, 0, 0, 0, 0, 0, 0, 0, 0, 0, 0, 0, 0, 0, 0, 0, 0, 0, 0, 0, 0, 0, 0, 1, 1, 1, 1, 2, 1, 1, 1, 1, 1, 1, 3, 1, 1, 1, 1, 1, 1, 1, 4, 1, 1, 1, 1, 1, 1, 0, 0, 0, 0, 0, 0, 0, 0, 0, 0, 0, 0, 0, 0, 0, 0, 0, 0, 0, 0, 0, 0, 0, 0, 0, 0, 0, 0, 0, 0, 0, 0, 0, 0, 0, 0, 0, 0, 0, 0, 0, 0, 0, 0, 0, 0, 0, 0, 0, 0, 0, 0, 0, 0, 0, 0, 0, 0, 0, 0, 0, 0, 0, 0, 0, 0, 0, 0, 0, 0, 0, 0, 0, 0, 0, 0, 0, 0, 0, 0, 0, 0, 0, 0, 0, 0, 0, 0, 0, 0, 0, 0, 0, 0, 0, 0, 0, 0, 0, 0, 0, 0, 0, 0, 0, 0, 0, 0, 0, 0, 0, 0, 0, 0, 0, 0, 0, 0, 0, 0, 0, 0, 0, 0, 0, 0, 0, 0, 0, 0, 0, 0, 0] ++ [.slice (some (8, 0)) 6 6 true, .slice (some (9, 0)) 6 6 true]), .agg [.nilIface]]
  blks := [.cells 210 4 (T.ofList [.str [108, 101, 116], .str [108, 101, 116], .str [119, 111, 114, 100], .str [91, 97, 45, 122, 93, 43]]) true false,
   .cells 39 6 (T.ofList [.slice (some (10, 0)) 5 5 true, .slice (some (11, 0)) 5 5 true, .slice (some (12, 0)) 5 5 true, .slice (some (13, 0)) 5 5 true, .slice (some (14, 0)) 5 5 true, .slice (some (15, 0)) 5 5 true]) true false,
   .cells 3 6 (T.ofList [.int .i64 (-1), .int .i64 (-1), .int .i64 1, .int .i64 1, .int .i64 1, .int .i64 0]) true false,
   .cells 3 5 (T.ofList [.int .i64 1, .int .i64 2, .int .i64 2, .int .i64 3, .int .i64 2]) true false,
   .cells 3 5 (T.ofList [.int .i64 1, .int .i64 1, .int .i64 1, .int .i64 1, .int .i64 1]) true false,
   .cells 3 5 (T.ofList [.int .i64 1, .int .i64 2, .int .i64 2, .int .i64 2, .int .i64 2]) true false,
   .cells 3 5 (T.ofList [.int .i64 1, .int .i64 2, .int .i64 4, .int .i64 2, .int .i64 2]) true false,
   .cells 3 5 (T.ofList [.int .i64 1, .int .i64 2, .int .i64 2, .int .i64 2, .int .i64 5]) true false,
   .cells 3 5 (T.ofList [.int .i64 1, .int .i64 2, .int .i64 2, .int .i64 2, .int .i64 2]) true false]
noncomputable def tabs20 : List (FuncId × List Tab) := [(142, [{ c := con13, g := 7, deep := 0 }, { c := con14, g := 7, deep := 0 }]), (475, [{ c := con15, g := 7, deep := 400 }]), (509, [{ c := con17, g := 7, deep := 400 }]), (524, [{ c := con19, g := 7, deep := 400 }])]
theorem tabs20_ok : TabsOk tabs20 := (TabsOk.cons (RowOk.cons (tabOk con13_ok 0) (RowOk.cons (tabOk con14_ok 0) (RowOk.nil 142))) (TabsOk.cons (RowOk.cons (tabOk con15_ok 400) (RowOk.nil 475)) (TabsOk.cons (RowOk.cons (tabOk con17_ok 400) (RowOk.nil 509)) (TabsOk.cons (RowOk.cons (tabOk con19_ok 400) (RowOk.nil 524)) TabsOk.nil))))
theorem con20_run : conRun Q (orcX tabs20) 3000 con20.f con20.lent con20.args [82, 125, 126, 127, 128, 129, 130, 131, 132] = some (con20.v, con20.blks) := by kernel_rfl
theorem con20_at : conOk Q con20.f con20.lent con20.args [82, 125, 126, 127, 128, 129, 130, 131, 132] = true := by kernel_rfl
theorem con20_ok : con20.Ok Q := conRun_sound q_mixed (orcX_ok tabs20_ok) con20_run con20_at
end
end Go.Cx

