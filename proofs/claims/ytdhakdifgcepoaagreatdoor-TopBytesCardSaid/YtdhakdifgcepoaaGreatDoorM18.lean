/-
  CONTRACTS OF THE FIXED CALLS: each is reckoned by the kernel over the lent blocks alone.
-/
import Derived.Test.YtdhakdifgcepoaaGreatDoorM08
/-
  CONTRACTS OF THE FIXED CALLS: each is reckoned by the kernel over the lent blocks alone.
-/
namespace Go.Cx
noncomputable section
open Go Go.Proofs Go.Conc
noncomputable def con0 : Con where
  f := 313
  lent := [.cells 372 0 (T.ofList []) false true,
   .cells 32 0 (T.ofList []) false true,
   .cells 32 0 (T.ofList []) false true,
   .cells 32 0 (T.ofList []) false true,
   .cells 32 0 (T.ofList []) false true,
   .cells 32 0 (T.ofList []) false true,
   .cells 539 0 (T.ofList []) false true]
  args := []
  v := .slice (some (7, 0)) 288 288 true
  blks := [.cells 3 288 (T.ofList (nums .i64 [8, 8, 8, 8, 8, 8, 8, 8, 8, 8, 8, 8, 8, 8, 8, 8, 8, 8, 8, 8, 8, 8, 8, 8, 8, 8, 8, 8, 8, 8, 8, 8, 8, 8, 8, 8, 8, 8, 8, 8, 8, 8, 8, 8, 8, 8, 8, 8, 8, 8, 8, 8, 8, 8, 8, 8, 8, 8, 8, 8, 8, 8, 8, 8, 8, 8, 8, 8, 8, 8, 8, 8, 8, 8, 8, 8, 8, 8, 8, 8, 8, 8, 8, 8, 8, 8, 8, 8, 8, 8, 8, 8, 8, 8, 8, 8, 8, 8, 8, 8, 8, 8, 8, 8, 8, 8, 8, 8, 8, 8, 8, 8, 8, 8, 8, 8, 8, 8, 8, 8, 8, 8, 8, 8, 8, 8, 8, 8, 8, 8, 8, 8, 8, 8, 8, 8, 8, 8, 8, 8, 8, 8, 8, 8, 9, 9, 9, 9, 9, 9, 9, 9, 9, 9, 9, 9, 9, 9, 9, 9, 9, 9, 9, 9, 9, 9, 9, 9, 9, 9, 9, 9, 9, 9, 9, 9, 9, 9, 9, 9, 9, 9, 9, 9, 9, 9, 9, 9, 9, 9, 9, 9, 9, 9, 9, 9, 9, 9, 9, 9, 9, 9, 9, 9, 9, 9, 9, 9, 9, 9, 9, 9, 9, 9, 9, 9, 9, 9, 9, 9, 9, 9, 9, 9, 9, 9, 9, 9, 9, 9, 9, 9, 9, 9, 9, 9, 9, 9, 9, 9, 9, 9, 9, 9, 9, 9, 9, 9, 9, 9, 9, 9, 9, 9, 9, 9, 7, 7, 7, 7, 7, 7, 7, 7, 7, 7, 7, 7, 7, 7, 7, 7, 7, 7, 7, 7, 7, 7, 7, 7, 8, 8, 8, 8, 8, 8, 8, 8])) true false]
noncomputable def tabs0 : List (FuncId × List Tab) := []
theorem tabs0_ok : TabsOk tabs0 := TabsOk.nil
theorem con0_run : conRun Q (orcX tabs0) 3000 con0.f con0.lent con0.args [582] = some (con0.v, con0.blks) := by kernel_rfl
theorem con0_at : conOk Q con0.f con0.lent con0.args [582] = true := by kernel_rfl
theorem con0_ok : con0.Ok Q := conRun_sound q_mixed (orcX_ok tabs0_ok) con0_run con0_at
noncomputable def con1 : Con where
  f := 314
  lent := [.cells 372 0 (T.ofList []) false true,
   .cells 32 0 (T.ofList []) false true,
   .cells 32 0 (T.ofList []) false true,
   .cells 32 0 (T.ofList []) false true,
   .cells 32 0 (T.ofList []) false true,
   .cells 32 0 (T.ofList []) false true,
   .cells 539 0 (T.ofList []) false true]
  args := []
  v := .slice (some (7, 0)) 32 32 true
  blks := [.cells 3 32 (T.ofList (nums .i64 [5, 5, 5, 5, 5, 5, 5, 5, 5, 5, 5, 5, 5, 5, 5, 5, 5, 5, 5, 5, 5, 5, 5, 5, 5, 5, 5, 5, 5, 5, 5, 5])) true false]
noncomputable def tabs1 : List (FuncId × List Tab) := []
theorem tabs1_ok : TabsOk tabs1 := TabsOk.nil
theorem con1_run : conRun Q (orcX tabs1) 3000 con1.f con1.lent con1.args [70] = some (con1.v, con1.blks) := by kernel_rfl
theorem con1_at : conOk Q con1.f con1.lent con1.args [70] = true := by kernel_rfl
theorem con1_ok : con1.Ok Q := conRun_sound q_mixed (orcX_ok tabs1_ok) con1_run con1_at
noncomputable def con2 : Con where
  f := 338
  lent := [.cells 372 0 (T.ofList []) false true,
   .cells 32 0 (T.ofList []) false true,
   .cells 32 0 (T.ofList []) false true,
   .cells 32 0 (T.ofList []) false true,
   .cells 32 0 (T.ofList []) false true,
   .cells 32 0 (T.ofList []) false true,
   .cells 539 0 (T.ofList []) false true,
   .cells 463 286 (T.ofList (nums .i64 [0, 0, 0, 0, 0, 0, 0, 0, 0, 0, 0, 0, 0, 0, 0, 0, 0, 0, 0, 0, 0, 0, 0, 0, 0, 0, 0, 0, 0, 0, 0, 0, 1, 0, 0, 0, 0, 0, 0, 0, 0, 0, 0, 0, 0, 0, 0, 0, 0, 0, 0, 0, 0, 0, 0, 0, 0, 0, 0, 0, 0, 0, 0, 0, 0, 0, 0, 0, 0, 0, 0, 0, 0, 0, 0, 0, 0, 0, 0, 0, 0, 0, 0, 0, 0, 0, 0, 0, 0, 0, 0, 0, 0, 0, 0, 0, 0, 0, 0, 0, 0, 1, 0, 0, 0, 0, 0, 0, 1, 0, 0, 0, 0, 0, 0, 0, 1, 0, 0, 0, 0, 0, 0, 0, 0, 0, 0, 0, 0, 0, 0, 0, 0, 0, 0, 0, 0, 0, 0, 0, 0, 0, 0, 0, 0, 0, 0, 0, 0, 0, 0, 0, 0, 0, 0, 0, 0, 0, 0, 0, 0, 0, 0, 0, 0, 0, 0, 0, 0, 0, 0, 0, 0, 0, 0, 0, 0, 0, 0, 0, 0, 0, 0, 0, 0, 0, 0, 0, 0, 0, 0, 0, 0, 0, 0, 0, 0, 0, 0, 0, 0, 0, 0, 0, 0, 0, 0, 0, 0, 0, 0, 0, 0, 0, 0, 0, 0, 0, 0, 0, 0, 0, 0, 0, 0, 0, 0, 0, 0, 0, 0, 0, 0, 0, 0, 0, 0, 0, 0, 0, 0, 0, 0, 0, 0, 0, 0, 0, 0, 0, 0, 0, 0, 0, 0, 0, 1, 0, 0, 0, 0, 0, 0, 0, 0, 0, 0, 0, 0, 0, 0, 0, 0, 0, 0, 0, 0, 0, 0, 0, 0, 0, 0, 0, 0, 0])) false true]
  args := [.slice (some (7, 0)) 286 286 false, .int .i64 15]
  v := .tuple [.slice (some (8, 0)) 286 286 false, .int .i64 0]
  blks := [.cells 3 286 (T.ofList (nums .i64 [0, 0, 0, 0, 0, 0, 0, 0, 0, 0, 0, 0, 0, 0, 0, 0, 0, 0, 0, 0, 0, 0, 0, 0, 0, 0, 0, 0, 0, 0, 0, 0, 2, 0, 0, 0, 0, 0, 0, 0, 0, 0, 0, 0, 0, 0, 0, 0, 0, 0, 0, 0, 0, 0, 0, 0, 0, 0, 0, 0, 0, 0, 0, 0, 0, 0, 0, 0, 0, 0, 0, 0, 0, 0, 0, 0, 0, 0, 0, 0, 0, 0, 0, 0, 0, 0, 0, 0, 0, 0, 0, 0, 0, 0, 0, 0, 0, 0, 0, 0, 0, 2, 0, 0, 0, 0, 0, 0, 2, 0, 0, 0, 0, 0, 0, 0, 3, 0, 0, 0, 0, 0, 0, 0, 0, 0, 0, 0, 0, 0, 0, 0, 0, 0, 0, 0, 0, 0, 0, 0, 0, 0, 0, 0, 0, 0, 0, 0, 0, 0, 0, 0, 0, 0, 0, 0, 0, 0, 0, 0, 0, 0, 0, 0, 0, 0, 0, 0, 0, 0, 0, 0, 0, 0, 0, 0, 0, 0, 0, 0, 0, 0, 0, 0, 0, 0, 0, 0, 0, 0, 0, 0, 0, 0, 0, 0, 0, 0, 0, 0, 0, 0, 0, 0, 0, 0, 0, 0, 0, 0, 0, 0, 0, 0, 0, 0, 0, 0, 0, 0, 0, 0, 0, 0, 0, 0, 0, 0, 0, 0, 0, 0, 0, 0, 0, 0, 0, 0, 0, 0, 0, 0, 0, 0, 0, 0, 0, 0, 0, 0, 0, 0, 0, 0, 0, 0, 3, 0, 0, 0, 0, 0, 0, 0, 0, 0, 0, 0, 0, 0, 0, 0, 0, 0, 0, 0, 0, 0, 0, 0, 0, 0, 0, 0, 0, 0])) false false]
noncomputable def tabs2 : List (FuncId × List Tab) := []
theorem tabs2_ok : TabsOk tabs2 := TabsOk.nil
theorem con2_run : conRun Q (orcX tabs2) 3000 con2.f con2.lent con2.args [8] = some (con2.v, con2.blks) := by kernel_rfl
theorem con2_at : conOk Q con2.f con2.lent con2.args [8] = true := by kernel_rfl
theorem con2_ok : con2.Ok Q := conRun_sound q_mixed (orcX_ok tabs2_ok) con2_run con2_at
noncomputable def con3 : Con where
  f := 338
  lent := [.cells 372 0 (T.ofList []) false true,
   .cells 32 0 (T.ofList []) false true,
   .cells 32 0 (T.ofList []) false true,
   .cells 32 0 (T.ofList []) false true,
   .cells 32 0 (T.ofList []) false true,
   .cells 32 0 (T.ofList []) false true,
   .cells 539 0 (T.ofList []) false true,
   .cells 464 30 (T.ofList (nums .i64 [0, 0, 0, 0, 0, 0, 0, 0, 0, 0, 0, 0, 0, 0, 0, 0, 0, 0, 0, 0, 0, 0, 0, 0, 0, 0, 0, 0, 0, 0])) false true]
  args := [.slice (some (7, 0)) 30 30 false, .int .i64 15]
  v := .tuple [.slice (some (8, 0)) 30 30 false, .int .i64 0]
  blks := [.cells 3 30 (T.ofList (nums .i64 [0, 0, 0, 0, 0, 0, 0, 0, 0, 0, 0, 0, 0, 0, 0, 0, 0, 0, 0, 0, 0, 0, 0, 0, 0, 0, 0, 0, 0, 0])) false false]
noncomputable def tabs3 : List (FuncId × List Tab) := []
theorem tabs3_ok : TabsOk tabs3 := TabsOk.nil
theorem con3_run : conRun Q (orcX tabs3) 3000 con3.f con3.lent con3.args [8] = some (con3.v, con3.blks) := by kernel_rfl
theorem con3_at : conOk Q con3.f con3.lent con3.args [8] = true := by kernel_rfl
theorem con3_ok : con3.Ok Q := conRun_sound q_mixed (orcX_ok tabs3_ok) con3_run con3_at
noncomputable def con4 : Con where
  f := 170
  lent := [.cells 372 0 (T.ofList []) false true,
   .cells 32 0 (T.ofList []) false true,
   .cells 32 0 (T.ofList []) false true,
   .cells 32 0 (T.ofList []) false true,
   .cells 32 0 (T.ofList []) false true,
   .cells 32 0 (T.ofList []) false true,
   .cells 539 0 (T.ofList []) false true]
  args := [.str [108, 101, 116, 32]]
  v := .agg [.int .i64 1, .str [], .slice (some (7, 0)) 4 4 true, .slice none 0 0 false, .slice none 0 0 false]
  blks := [.cells 186 12 (T.ofList [.int .u8 108, .int .i64 0, .int .i64 0, .int .u8 101, .int .i64 0, .int .i64 0, .int .u8 116, .int .i64 0, .int .i64 0, .int .u8 32, .int .i64 0, .int .i64 0]) true false]
noncomputable def tabs4 : List (FuncId × List Tab) := [(313, [{ c := con0, g := 7, deep := 0 }]), (314, [{ c := con1, g := 7, deep := 0 }]), (338, [{ c := con2, g := 7, deep := 400 }, { c := con3, g := 7, deep := 400 }])]
theorem tabs4_ok : TabsOk tabs4 := (TabsOk.cons (RowOk.cons (tabOk con0_ok 0) (RowOk.nil 313)) (TabsOk.cons (RowOk.cons (tabOk con1_ok 0) (RowOk.nil 314)) (TabsOk.cons (RowOk.cons (tabOk con2_ok 400) (RowOk.cons (tabOk con3_ok 400) (RowOk.nil 338))) TabsOk.nil)))
theorem con4_run : conRun Q (orcX tabs4) 3000 con4.f con4.lent con4.args [27] = some (con4.v, con4.blks) := by kernel_rfl
theorem con4_at : conOk Q con4.f con4.lent con4.args [27] = true := by kernel_rfl
theorem con4_ok : con4.Ok Q := conRun_sound q_mixed (orcX_ok tabs4_ok) con4_run con4_at
noncomputable def con5 : Con where
  f := 338
  lent := [.cells 372 0 (T.ofList []) false true,
   .cells 32 0 (T.ofList []) false true,
   .cells 32 0 (T.ofList []) false true,
   .cells 32 0 (T.ofList []) false true,
   .cells 32 0 (T.ofList []) false true,
   .cells 32 0 (T.ofList []) false true,
   .cells 539 0 (T.ofList []) false true,
   .cells 463 286 (T.ofList (nums .i64 [0, 0, 0, 0, 0, 0, 0, 0, 0, 0, 0, 0, 0, 0, 0, 0, 0, 0, 0, 0, 0, 0, 0, 0, 0, 0, 0, 0, 0, 0, 0, 0, 1, 0, 0, 0, 0, 0, 0, 0, 0, 0, 0, 0, 0, 0, 0, 0, 0, 0, 0, 0, 0, 0, 0, 0, 0, 0, 0, 0, 0, 0, 0, 0, 0, 0, 0, 0, 0, 0, 0, 0, 0, 0, 0, 0, 0, 0, 0, 0, 0, 0, 0, 0, 0, 0, 0, 0, 0, 0, 0, 0, 0, 0, 0, 0, 0, 0, 1, 0, 0, 0, 0, 0, 0, 1, 0, 0, 0, 0, 0, 0, 0, 0, 0, 0, 1, 0, 0, 0, 0, 0, 0, 0, 0, 0, 0, 0, 0, 0, 0, 0, 0, 0, 0, 0, 0, 0, 0, 0, 0, 0, 0, 0, 0, 0, 0, 0, 0, 0, 0, 0, 0, 0, 0, 0, 0, 0, 0, 0, 0, 0, 0, 0, 0, 0, 0, 0, 0, 0, 0, 0, 0, 0, 0, 0, 0, 0, 0, 0, 0, 0, 0, 0, 0, 0, 0, 0, 0, 0, 0, 0, 0, 0, 0, 0, 0, 0, 0, 0, 0, 0, 0, 0, 0, 0, 0, 0, 0, 0, 0, 0, 0, 0, 0, 0, 0, 0, 0, 0, 0, 0, 0, 0, 0, 0, 0, 0, 0, 0, 0, 0, 0, 0, 0, 0, 0, 0, 0, 0, 0, 0, 0, 0, 0, 0, 0, 0, 0, 0, 0, 0, 0, 0, 0, 0, 1, 0, 0, 0, 0, 0, 0, 0, 0, 0, 0, 0, 0, 0, 0, 0, 0, 0, 0, 0, 0, 0, 0, 0, 0, 0, 0, 0, 0, 0])) false true]
  args := [.slice (some (7, 0)) 286 286 false, .int .i64 15]
  v := .tuple [.slice (some (8, 0)) 286 286 false, .int .i64 0]
  blks := [.cells 3 286 (T.ofList (nums .i64 [0, 0, 0, 0, 0, 0, 0, 0, 0, 0, 0, 0, 0, 0, 0, 0, 0, 0, 0, 0, 0, 0, 0, 0, 0, 0, 0, 0, 0, 0, 0, 0, 2, 0, 0, 0, 0, 0, 0, 0, 0, 0, 0, 0, 0, 0, 0, 0, 0, 0, 0, 0, 0, 0, 0, 0, 0, 0, 0, 0, 0, 0, 0, 0, 0, 0, 0, 0, 0, 0, 0, 0, 0, 0, 0, 0, 0, 0, 0, 0, 0, 0, 0, 0, 0, 0, 0, 0, 0, 0, 0, 0, 0, 0, 0, 0, 0, 0, 2, 0, 0, 0, 0, 0, 0, 2, 0, 0, 0, 0, 0, 0, 0, 0, 0, 0, 3, 0, 0, 0, 0, 0, 0, 0, 0, 0, 0, 0, 0, 0, 0, 0, 0, 0, 0, 0, 0, 0, 0, 0, 0, 0, 0, 0, 0, 0, 0, 0, 0, 0, 0, 0, 0, 0, 0, 0, 0, 0, 0, 0, 0, 0, 0, 0, 0, 0, 0, 0, 0, 0, 0, 0, 0, 0, 0, 0, 0, 0, 0, 0, 0, 0, 0, 0, 0, 0, 0, 0, 0, 0, 0, 0, 0, 0, 0, 0, 0, 0, 0, 0, 0, 0, 0, 0, 0, 0, 0, 0, 0, 0, 0, 0, 0, 0, 0, 0, 0, 0, 0, 0, 0, 0, 0, 0, 0, 0, 0, 0, 0, 0, 0, 0, 0, 0, 0, 0, 0, 0, 0, 0, 0, 0, 0, 0, 0, 0, 0, 0, 0, 0, 0, 0, 0, 0, 0, 0, 3, 0, 0, 0, 0, 0, 0, 0, 0, 0, 0, 0, 0, 0, 0, 0, 0, 0, 0, 0, 0, 0, 0, 0, 0, 0, 0, 0, 0, 0])) false false]
noncomputable def tabs5 : List (FuncId × List Tab) := []
theorem tabs5_ok : TabsOk tabs5 := TabsOk.nil
theorem con5_run : conRun Q (orcX tabs5) 3000 con5.f con5.lent con5.args [8] = some (con5.v, con5.blks) := by kernel_rfl
theorem con5_at : conOk Q con5.f con5.lent con5.args [8] = true := by kernel_rfl
theorem con5_ok : con5.Ok Q := conRun_sound q_mixed (orcX_ok tabs5_ok) con5_run con5_at
noncomputable def con6 : Con where
  f := 170
  lent := [.cells 372 0 (T.ofList []) false true,
   .cells 32 0 (T.ofList []) false true,
   .cells 32 0 (T.ofList []) false true,
   .cells 32 0 (T.ofList []) false true,
   .cells 32 0 (T.ofList []) false true,
   .cells 32 0 (T.ofList []) false true,
   .cells 539 0 (T.ofList []) false true]
  args := [.str [105, 116, 32, 98]]
  v := .agg [.int .i64 1, .str [], .slice (some (7, 0)) 4 4 true, .slice none 0 0 false, .slice none 0 0 false]
  blks := [.cells 186 12 (T.ofList [.int .u8 105, .int .i64 0, .int .i64 0, .int .u8 116, .int .i64 0, .int .i64 0, .int .u8 32, .int .i64 0, .int .i64 0, .int .u8 98, .int .i64 0, .int .i64 0]) true false]
noncomputable def tabs6 : List (FuncId × List Tab) := [(313, [{ c := con0, g := 7, deep := 0 }]), (314, [{ c := con1, g := 7, deep := 0 }]), (338, [{ c := con3, g := 7, deep := 400 }, { c := con5, g := 7, deep := 400 }])]
theorem tabs6_ok : TabsOk tabs6 := (TabsOk.cons (RowOk.cons (tabOk con0_ok 0) (RowOk.nil 313)) (TabsOk.cons (RowOk.cons (tabOk con1_ok 0) (RowOk.nil 314)) (TabsOk.cons (RowOk.cons (tabOk con3_ok 400) (RowOk.cons (tabOk con5_ok 400) (RowOk.nil 338))) TabsOk.nil)))
theorem con6_run : conRun Q (orcX tabs6) 3000 con6.f con6.lent con6.args [27] = some (con6.v, con6.blks) := by kernel_rfl
theorem con6_at : conOk Q con6.f con6.lent con6.args [27] = true := by kernel_rfl
theorem con6_ok : con6.Ok Q := conRun_sound q_mixed (orcX_ok tabs6_ok) con6_run con6_at
noncomputable def con7 : Con where
  f := 338
  lent := [.cells 372 0 (T.ofList []) false true,
   .cells 32 0 (T.ofList []) false true,
   .cells 32 0 (T.ofList []) false true,
   .cells 32 0 (T.ofList []) false true,
   .cells 32 0 (T.ofList []) false true,
   .cells 32 0 (T.ofList []) false true,
   .cells 539 0 (T.ofList []) false true,
   .cells 463 286 (T.ofList (nums .i64 [0, 0, 0, 0, 0, 0, 0, 0, 0, 0, 0, 0, 0, 0, 0, 0, 0, 0, 0, 0, 0, 0, 0, 0, 0, 0, 0, 0, 0, 0, 0, 0, 0, 0, 0, 0, 0, 0, 0, 0, 0, 0, 0, 0, 0, 0, 0, 0, 0, 0, 0, 0, 0, 0, 0, 0, 0, 0, 0, 0, 0, 0, 0, 0, 0, 0, 0, 0, 0, 0, 0, 0, 0, 0, 0, 0, 0, 0, 0, 0, 0, 0, 0, 0, 0, 0, 0, 0, 0, 0, 0, 0, 0, 0, 0, 0, 0, 0, 0, 0, 0, 1, 0, 0, 0, 0, 0, 0, 0, 0, 0, 0, 0, 0, 0, 0, 0, 0, 0, 0, 0, 0, 0, 0, 0, 0, 0, 0, 0, 0, 0, 0, 0, 0, 0, 0, 0, 0, 0, 0, 0, 0, 0, 0, 0, 0, 0, 0, 0, 0, 0, 0, 0, 0, 0, 0, 0, 0, 0, 0, 0, 0, 0, 0, 0, 0, 0, 0, 0, 0, 0, 0, 0, 0, 0, 0, 0, 0, 0, 0, 0, 0, 0, 0, 0, 0, 0, 0, 0, 0, 0, 0, 0, 0, 0, 0, 0, 0, 0, 0, 0, 0, 0, 0, 0, 0, 0, 0, 0, 0, 0, 0, 0, 0, 0, 0, 0, 0, 0, 0, 0, 0, 0, 0, 0, 0, 0, 0, 0, 0, 0, 0, 0, 0, 0, 0, 0, 0, 0, 0, 0, 0, 0, 0, 0, 0, 0, 0, 0, 0, 0, 0, 0, 0, 0, 0, 1, 0, 0, 0, 0, 0, 0, 0, 0, 0, 0, 0, 0, 0, 0, 0, 0, 0, 0, 0, 0, 0, 0, 0, 0, 0, 0, 0, 0, 0])) false true]
  args := [.slice (some (7, 0)) 286 286 false, .int .i64 15]
  v := .tuple [.slice (some (8, 0)) 286 286 false, .int .i64 0]
  blks := [.cells 3 286 (T.ofList (nums .i64 [0, 0, 0, 0, 0, 0, 0, 0, 0, 0, 0, 0, 0, 0, 0, 0, 0, 0, 0, 0, 0, 0, 0, 0, 0, 0, 0, 0, 0, 0, 0, 0, 0, 0, 0, 0, 0, 0, 0, 0, 0, 0, 0, 0, 0, 0, 0, 0, 0, 0, 0, 0, 0, 0, 0, 0, 0, 0, 0, 0, 0, 0, 0, 0, 0, 0, 0, 0, 0, 0, 0, 0, 0, 0, 0, 0, 0, 0, 0, 0, 0, 0, 0, 0, 0, 0, 0, 0, 0, 0, 0, 0, 0, 0, 0, 0, 0, 0, 0, 0, 0, 1, 0, 0, 0, 0, 0, 0, 0, 0, 0, 0, 0, 0, 0, 0, 0, 0, 0, 0, 0, 0, 0, 0, 0, 0, 0, 0, 0, 0, 0, 0, 0, 0, 0, 0, 0, 0, 0, 0, 0, 0, 0, 0, 0, 0, 0, 0, 0, 0, 0, 0, 0, 0, 0, 0, 0, 0, 0, 0, 0, 0, 0, 0, 0, 0, 0, 0, 0, 0, 0, 0, 0, 0, 0, 0, 0, 0, 0, 0, 0, 0, 0, 0, 0, 0, 0, 0, 0, 0, 0, 0, 0, 0, 0, 0, 0, 0, 0, 0, 0, 0, 0, 0, 0, 0, 0, 0, 0, 0, 0, 0, 0, 0, 0, 0, 0, 0, 0, 0, 0, 0, 0, 0, 0, 0, 0, 0, 0, 0, 0, 0, 0, 0, 0, 0, 0, 0, 0, 0, 0, 0, 0, 0, 0, 0, 0, 0, 0, 0, 0, 0, 0, 0, 0, 0, 1, 0, 0, 0, 0, 0, 0, 0, 0, 0, 0, 0, 0, 0, 0, 0, 0, 0, 0, 0, 0, 0, 0, 0, 0, 0, 0, 0, 0, 0])) false false]
noncomputable def tabs7 : List (FuncId × List Tab) := []
theorem tabs7_ok : TabsOk tabs7 := TabsOk.nil
theorem con7_run : conRun Q (orcX tabs7) 3000 con7.f con7.lent con7.args [8] = some (con7.v, con7.blks) := by kernel_rfl
theorem con7_at : conOk Q con7.f con7.lent con7.args [8] = true := by kernel_rfl
theorem con7_ok : con7.Ok Q := conRun_sound q_mixed (orcX_ok tabs7_ok) con7_run con7_at
noncomputable def con8 : Con where
  f := 170
  lent := [.cells 372 0 (T.ofList []) false true,
   .cells 32 0 (T.ofList []) false true,
   .cells 32 0 (T.ofList []) false true,
   .cells 32 0 (T.ofList []) false true,
   .cells 32 0 (T.ofList []) false true,
   .cells 32 0 (T.ofList []) false true,
   .cells 539 0 (T.ofList []) false true]
  args := [.str [101]]
  v := .agg [.int .i64 1, .str [], .slice (some (7, 0)) 1 1 true, .slice none 0 0 false, .slice none 0 0 false]
  blks := [.cells 186 3 (T.ofList [.int .u8 101, .int .i64 0, .int .i64 0]) true false]
noncomputable def tabs8 : List (FuncId × List Tab) := [(313, [{ c := con0, g := 7, deep := 0 }]), (314, [{ c := con1, g := 7, deep := 0 }]), (338, [{ c := con3, g := 7, deep := 400 }, { c := con7, g := 7, deep := 400 }])]
theorem tabs8_ok : TabsOk tabs8 := (TabsOk.cons (RowOk.cons (tabOk con0_ok 0) (RowOk.nil 313)) (TabsOk.cons (RowOk.cons (tabOk con1_ok 0) (RowOk.nil 314)) (TabsOk.cons (RowOk.cons (tabOk con3_ok 400) (RowOk.cons (tabOk con7_ok 400) (RowOk.nil 338))) TabsOk.nil)))
theorem con8_run : conRun Q (orcX tabs8) 3000 con8.f con8.lent con8.args [12] = some (con8.v, con8.blks) := by kernel_rfl
theorem con8_at : conOk Q con8.f con8.lent con8.args [12] = true := by kernel_rfl
theorem con8_ok : con8.Ok Q := conRun_sound q_mixed (orcX_ok tabs8_ok) con8_run con8_at
noncomputable def con9 : Con where
  f := 96
  lent := [.cells 372 0 (T.ofList []) false true,
   .cells 32 0 (T.ofList []) false true,
   .cells 32 0 (T.ofList []) false true,
   .cells 32 0 (T.ofList []) false true,
   .cells 32 0 (T.ofList []) false true,
   .cells 32 0 (T.ofList []) false true,
   .cells 539 0 (T.ofList []) false true]
  args := [.str [108, 101, 116, 32, 105, 116, 32, 98, 101], .int .i64 4]
  v := .slice (some (7, 0)) 3 3 true
  blks := [.cells 271 15 (T.ofList [.int .i64 1, .str [], .slice (some (8, 0)) 4 4 true, .slice none 0 0 false, .slice none 0 0 false, .int .i64 1, .str [], .slice (some (9, 0)) 4 4 true, .slice none 0 0 false, .slice none 0 0 false, .int .i64 1, .str [], .slice (some (10, 0)) 1 1 true, .slice none 0 0 false, .slice none 0 0 false]) true false,
   .cells 186 12 (T.ofList [.int .u8 108, .int .i64 0, .int .i64 0, .int .u8 101, .int .i64 0, .int .i64 0, .int .u8 116, .int .i64 0, .int .i64 0, .int .u8 32, .int .i64 0, .int .i64 0]) true false,
   .cells 186 12 (T.ofList [.int .u8 105, .int .i64 0, .int .i64 0, .int .u8 116, .int .i64 0, .int .i64 0, .int .u8 32, .int .i64 0, .int .i64 0, .int .u8 98, .int .i64 0, .int .i64 0]) true false,
   .cells 186 3 (T.ofList [.int .u8 101, .int .i64 0, .int .i64 0]) true false]
noncomputable def tabs9 : List (FuncId × List Tab) := [(170, [{ c := con4, g := 7, deep := 0 }, { c := con6, g := 7, deep := 0 }, { c := con8, g := 7, deep := 0 }])]
theorem tabs9_ok : TabsOk tabs9 := (TabsOk.cons (RowOk.cons (tabOk con4_ok 0) (RowOk.cons (tabOk con6_ok 0) (RowOk.cons (tabOk con8_ok 0) (RowOk.nil 170)))) TabsOk.nil)
theorem con9_run : conRun Q (orcX tabs9) 3000 con9.f con9.lent con9.args [15, 7, 10, 13] = some (con9.v, con9.blks) := by kernel_rfl
theorem con9_at : conOk Q con9.f con9.lent con9.args [15, 7, 10, 13] = true := by kernel_rfl
theorem con9_ok : con9.Ok Q := conRun_sound q_mixed (orcX_ok tabs9_ok) con9_run con9_at
noncomputable def con10 : Con where
  f := 319
  lent := [.cells 372 0 (T.ofList []) false true,
   .cells 32 0 (T.ofList []) false true,
   .cells 32 0 (T.ofList []) false true,
   .cells 32 0 (T.ofList []) false true,
   .cells 32 0 (T.ofList []) false true,
   .cells 32 0 (T.ofList []) false true,
   .cells 539 0 (T.ofList []) false true,
   .cells 3 288 (T.ofList (nums .i64 [8, 8, 8, 8, 8, 8, 8, 8, 8, 8, 8, 8, 8, 8, 8, 8, 8, 8, 8, 8, 8, 8, 8, 8, 8, 8, 8, 8, 8, 8, 8, 8, 8, 8, 8, 8, 8, 8, 8, 8, 8, 8, 8, 8, 8, 8, 8, 8, 8, 8, 8, 8, 8, 8, 8, 8, 8, 8, 8, 8, 8, 8, 8, 8, 8, 8, 8, 8, 8, 8, 8, 8, 8, 8, 8, 8, 8, 8, 8, 8, 8, 8, 8, 8, 8, 8, 8, 8, 8, 8, 8, 8, 8, 8, 8, 8, 8, 8, 8, 8, 8, 8, 8, 8, 8, 8, 8, 8, 8, 8, 8, 8, 8, 8, 8, 8, 8, 8, 8, 8, 8, 8, 8, 8, 8, 8, 8, 8, 8, 8, 8, 8, 8, 8, 8, 8, 8, 8, 8, 8, 8, 8, 8, 8, 9, 9, 9, 9, 9, 9, 9, 9, 9, 9, 9, 9, 9, 9, 9, 9, 9, 9, 9, 9, 9, 9, 9, 9, 9, 9, 9, 9, 9, 9, 9, 9, 9, 9, 9, 9, 9, 9, 9, 9, 9, 9, 9, 9, 9, 9, 9, 9, 9, 9, 9, 9, 9, 9, 9, 9, 9, 9, 9, 9, 9, 9, 9, 9, 9, 9, 9, 9, 9, 9, 9, 9, 9, 9, 9, 9, 9, 9, 9, 9, 9, 9, 9, 9, 9, 9, 9, 9, 9, 9, 9, 9, 9, 9, 9, 9, 9, 9, 9, 9, 9, 9, 9, 9, 9, 9, 9, 9, 9, 9, 9, 9, 7, 7, 7, 7, 7, 7, 7, 7, 7, 7, 7, 7, 7, 7, 7, 7, 7, 7, 7, 7, 7, 7, 7, 7, 8, 8, 8, 8, 8, 8, 8, 8])) true true]
  args := [.slice (some (7, 0)) 288 288 true]
  v := .tuple [.slice (some (8, 0)) 288 288 false, .int .i64 0]
  blks := [.cells 3 288 (T.ofList (nums .i64 [48, 49, 50, 51, 52, 53, 54, 55, 56, 57, 58, 59, 60, 61, 62, 63, 64, 65, 66, 67, 68, 69, 70, 71, 72, 73, 74, 75, 76, 77, 78, 79, 80, 81, 82, 83, 84, 85, 86, 87, 88, 89, 90, 91, 92, 93, 94, 95, 96, 97, 98, 99, 100, 101, 102, 103, 104, 105, 106, 107, 108, 109, 110, 111, 112, 113, 114, 115, 116, 117, 118, 119, 120, 121, 122, 123, 124, 125, 126, 127, 128, 129, 130, 131, 132, 133, 134, 135, 136, 137, 138, 139, 140, 141, 142, 143, 144, 145, 146, 147, 148, 149, 150, 151, 152, 153, 154, 155, 156, 157, 158, 159, 160, 161, 162, 163, 164, 165, 166, 167, 168, 169, 170, 171, 172, 173, 174, 175, 176, 177, 178, 179, 180, 181, 182, 183, 184, 185, 186, 187, 188, 189, 190, 191, 400, 401, 402, 403, 404, 405, 406, 407, 408, 409, 410, 411, 412, 413, 414, 415, 416, 417, 418, 419, 420, 421, 422, 423, 424, 425, 426, 427, 428, 429, 430, 431, 432, 433, 434, 435, 436, 437, 438, 439, 440, 441, 442, 443, 444, 445, 446, 447, 448, 449, 450, 451, 452, 453, 454, 455, 456, 457, 458, 459, 460, 461, 462, 463, 464, 465, 466, 467, 468, 469, 470, 471, 472, 473, 474, 475, 476, 477, 478, 479, 480, 481, 482, 483, 484, 485, 486, 487, 488, 489, 490, 491, 492, 493, 494, 495, 496, 497, 498, 499, 500, 501, 502, 503, 504, 505, 506, 507, 508, 509, 510, 511, 0, 1, 2, 3, 4, 5, 6, 7, 8, 9, 10, 11, 12, 13, 14, 15, 16, 17, 18, 19, 20, 21, 22, 23, 192, 193, 194, 195, 196, 197, 198, 199])) false false]
noncomputable def tabs10 : List (FuncId × List Tab) := []
theorem tabs10_ok : TabsOk tabs10 := TabsOk.nil
theorem con10_run : conRun Q (orcX tabs10) 3000 con10.f con10.lent con10.args [13] = some (con10.v, con10.blks) := by kernel_rfl
theorem con10_at : conOk Q con10.f con10.lent con10.args [13] = true := by kernel_rfl
theorem con10_ok : con10.Ok Q := conRun_sound q_mixed (orcX_ok tabs10_ok) con10_run con10_at
noncomputable def con11 : Con where
  f := 168
  lent := [.cells 372 0 (T.ofList []) false true,
   .cells 32 0 (T.ofList []) false true,
   .cells 32 0 (T.ofList []) false true,
   .cells 32 0 (T.ofList []) false true,
   .cells 32 0 (T.ofList []) false true,
   .cells 32 0 (T.ofList []) false true,
   .cells 539 0 (T.ofList []) false true,
   .cells 271 15 (T.ofList [.int .i64 1, .str [], .slice (some (8, 0)) 4 4 true, .slice none 0 0 false, .slice none 0 0 false, .int .i64 1, .str [], .slice (some (9, 0)) 4 4 true, .slice none 0 0 false, .slice none 0 0 false, .int .i64 1, .str [], .slice (some (10, 0)) 1 1 true, .slice none 0 0 false, .slice none 0 0 false]) true true,
   .cells 186 12 (T.ofList [.int .u8 108, .int .i64 0, .int .i64 0, .int .u8 101, .int .i64 0, .int .i64 0, .int .u8 116, .int .i64 0, .int .i64 0, .int .u8 32, .int .i64 0, .int .i64 0]) true true,
   .cells 186 12 (T.ofList [.int .u8 105, .int .i64 0, .int .i64 0, .int .u8 116, .int .i64 0, .int .i64 0, .int .u8 32, .int .i64 0, .int .i64 0, .int .u8 98, .int .i64 0, .int .i64 0]) true true,
   .cells 186 3 (T.ofList [.int .u8 101, .int .i64 0, .int .i64 0]) true true]
  args := [.slice (some (7, 0)) 3 3 true]
  v := .tuple [.str [202, 73, 45, 81, 0, 40, 179, 68, 33, 9, 176, 84, 0], .int .i64 0]
  blks := []
noncomputable def tabs11 : List (FuncId × List Tab) := [(313, [{ c := con0, g := 7, deep := 0 }]), (314, [{ c := con1, g := 7, deep := 0 }]), (319, [{ c := con10, g := 7, deep := 400 }])]
theorem tabs11_ok : TabsOk tabs11 := (TabsOk.cons (RowOk.cons (tabOk con0_ok 0) (RowOk.nil 313)) (TabsOk.cons (RowOk.cons (tabOk con1_ok 0) (RowOk.nil 314)) (TabsOk.cons (RowOk.cons (tabOk con10_ok 400) (RowOk.nil 319)) TabsOk.nil)))
theorem con11_run : conRun Q (orcX tabs11) 3000 con11.f con11.lent con11.args [] = some (con11.v, con11.blks) := by kernel_rfl
theorem con11_at : conOk Q con11.f con11.lent con11.args [] = true := by kernel_rfl
theorem con11_ok : con11.Ok Q := conRun_sound q_mixed (orcX_ok tabs11_ok) con11_run con11_at
noncomputable def con12 : Con where
  f := 36
  lent := [.cells 372 0 (T.ofList []) false true,
   .cells 32 0 (T.ofList []) false true,
   .cells 32 0 (T.ofList []) false true,
   .cells 32 0 (T.ofList []) false true,
   .cells 32 0 (T.ofList []) false true,
   .cells 32 0 (T.ofList []) false true,
   .cells 539 0 (T.ofList []) false true]
  args := [.agg [.int .i64 0, .str [], .str [], .str [], .int .i64 0, .int .i64 0, .bool false, .bool false, .int .i64 0], .str [108, 101, 116, 32, 105, 116, 32, 98, 101], .int .i64 4]
  v := .tuple [.str [31, 139, 8, 0, 0, 0, 0, 0, 0, 0, 202, 73, 45, 81, 0, 40, 179, 68, 33, 9, 176, 84, 0, 42, 193, 255, 249, 9, 0, 0, 0], .int .i64 0]
  blks := []
noncomputable def tabs12 : List (FuncId × List Tab) := [(96, [{ c := con9, g := 7, deep := 0 }]), (168, [{ c := con11, g := 7, deep := 400 }])]
theorem tabs12_ok : TabsOk tabs12 := (TabsOk.cons (RowOk.cons (tabOk con9_ok 0) (RowOk.nil 96)) (TabsOk.cons (RowOk.cons (tabOk con11_ok 400) (RowOk.nil 168)) TabsOk.nil))
theorem con12_run : conRun Q (orcX tabs12) 3000 con12.f con12.lent con12.args [] = some (con12.v, con12.blks) := by kernel_rfl
theorem con12_at : conOk Q con12.f con12.lent con12.args [] = true := by kernel_rfl
theorem con12_ok : con12.Ok Q := conRun_sound q_mixed (orcX_ok tabs12_ok) con12_run con12_at
end
end Go.Cx

