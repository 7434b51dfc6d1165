/- Part of a claim: own texts Fns, merged by a program of this claim. -/
import Derived.Test.YtlpndcfkjkbeoaaProg
import Derived.KernelRfl
import Derived.Test.YtlpndcfkjkbeoaaMa
-- printed by a program of this claim (gen.py): the types, the orders of regions that draw, and the functions as they are entered
namespace Go.Proofs.Ytlpndcfkjkbeoaa
open Go Go.Pan
def ttL : List (Nat × TI) := [(3, ⟨1, 8, false, [(.int .i64 0)], .int .i64⟩),
  (34, ⟨1, 24, false, [(.slice none 0 0)], .slice 35 1⟩),
  (35, ⟨1, 8, false, [(.int .u64 0)], .int .u64⟩),
  (26, ⟨1, 24, false, [(.slice none 0 0)], .slice 37 2⟩),
  (37, ⟨2, 32, true, [(.slice none 0 0), (.int .u64 0)], .struct [⟨0, 1, false⟩, ⟨1, 1, false⟩]⟩),
  (56, ⟨2, 48, true, [(.slice none 0 0), (.slice none 0 0)], .struct [⟨0, 1, false⟩, ⟨1, 1, false⟩]⟩),
  (190, ⟨1, 24, false, [(.slice none 0 0)], .slice 194 3⟩),
  (165, ⟨3, 24, true, [(.int .i64 0), (.int .i64 0), (.int .i64 0)], .struct [⟨0, 1, false⟩, ⟨1, 1, false⟩, ⟨2, 1, false⟩]⟩),
  (80, ⟨1, 8, false, [(.pointer none)], .ptr 8⟩),
  (60, ⟨4, 32, true, [(.int .u64 0), (.int .u64 0), (.int .u64 0), (.int .u64 0)], .struct [⟨0, 1, false⟩, ⟨1, 1, false⟩, ⟨2, 1, false⟩, ⟨3, 1, false⟩]⟩),
  (29, ⟨1, 8, false, [(.int .i64 0)], .int .i64⟩),
  (194, ⟨3, 24, true, [(.int .i64 0), (.pointer none), (.bool false)], .struct [⟨0, 1, false⟩, ⟨1, 1, false⟩, ⟨2, 1, false⟩]⟩),
  (138, ⟨8, 80, true, [(.int .i64 0), (.slice none 0 0), (.int .u64 0), (.pointer none), (.int .u64 0), (.int .u64 0), (.int .u64 0), (.int .u64 0)], .struct [⟨0, 1, false⟩, ⟨1, 1, false⟩, ⟨2, 1, false⟩, ⟨3, 1, false⟩, ⟨4, 4, true⟩]⟩),
  (159, ⟨3, 40, true, [(.pointer none), (.int .u64 0), (.slice none 0 0)], .struct [⟨0, 1, false⟩, ⟨1, 1, false⟩, ⟨2, 1, false⟩]⟩),
  (119, ⟨1, 24, false, [(.slice none 0 0)], .slice 80 1⟩),
  (148, ⟨4, 16, true, [(.int .i64 0), (.bool false), (.bool false), (.bool false)], .struct [⟨0, 1, false⟩, ⟨1, 1, false⟩, ⟨2, 1, false⟩, ⟨3, 1, false⟩]⟩),
  (25, ⟨1, 8, false, [(.pointer none)], .ptr 2⟩),
  (154, ⟨1, 24, false, [(.slice none 0 0)], .slice 159 3⟩),
  (192, ⟨3, 40, true, [(.int .i64 0), (.int .i64 0), (.slice none 0 0)], .struct [⟨0, 1, false⟩, ⟨1, 1, false⟩, ⟨2, 1, false⟩]⟩),
  (4, ⟨1, 1, false, [(.bool false)], .bool⟩),
  (136, ⟨1, 8, false, [(.pointer none)], .ptr 3⟩),
  (208, ⟨2, 16, true, [(.int .u64 0), (.int .u64 0)], .array 2 35 1⟩),
  (73, ⟨3, 40, true, [(.bool false), (.slice none 0 0), (.int .u64 0)], .struct [⟨0, 1, false⟩, ⟨1, 1, false⟩, ⟨2, 1, false⟩]⟩),
  (134, ⟨2, 16, true, [(.int .i64 0), (.pointer none)], .struct [⟨0, 1, false⟩, ⟨1, 1, false⟩]⟩),
  (129, ⟨3, 40, true, [(.pointer none), (.slice none 0 0), (.bool false)], .struct [⟨0, 1, false⟩, ⟨1, 1, false⟩, ⟨2, 1, false⟩]⟩),
  (172, ⟨5, 72, true, [(.int .i64 0), (.slice none 0 0), (.slice none 0 0), (.bool false), (.int .u64 0)], .struct [⟨0, 1, false⟩, ⟨1, 1, false⟩, ⟨2, 1, false⟩, ⟨3, 1, false⟩, ⟨4, 1, false⟩]⟩),
  (114, ⟨3, 56, true, [(.slice none 0 0), (.slice none 0 0), .nilFunc], .struct [⟨0, 2, true⟩, ⟨2, 1, false⟩]⟩),
  (170, ⟨1, 24, false, [(.slice none 0 0)], .slice 3 1⟩),
  (156, ⟨2, 48, true, [(.slice none 0 0), (.slice none 0 0)], .struct [⟨0, 1, false⟩, ⟨1, 1, false⟩]⟩),
  (186, ⟨1, 24, false, [(.slice none 0 0)], .slice 188 2⟩),
  (141, ⟨1, 8, false, [(.int .u64 0)], .int .u64⟩),
  (22, ⟨1, 24, false, [(.slice none 0 0)], .slice 73 3⟩),
  (188, ⟨2, 16, true, [(.pointer none), (.int .i64 0)], .struct [⟨0, 1, false⟩, ⟨1, 1, false⟩]⟩),
  (76, ⟨1, 8, false, [(.pointer none)], .ptr 3⟩),
  (161, ⟨1, 8, false, [(.pointer none)], .ptr 1⟩),
  (5, ⟨1, 1, false, [(.int .u8 0)], .int .u8⟩),
  (112, ⟨1, 8, false, [.nilFunc], .other⟩),
  (9, ⟨1, 16, false, [(.string ⟨#[]⟩)], .str⟩)]
def tt : Nat → Option TI := lk ttL
theorem tt_ok : ∀ t i, tt t = some i → tiOf Try.prog t = some i := lk_ok (by kernel_rfl)
theorem hmix : Try.prog.follows .mixedOrders = true := by kernel_rfl
def sc0 : Nat → Sc := fun _ => .done
abbrev T_i64 : Nat := 3
abbrev T_bool : Nat := 4
abbrev T_u8 : Nat := 5
abbrev T_string : Nat := 9
abbrev T_sl_law07_Act : Nat := 22
abbrev T_p_tree_Tree : Nat := 25
abbrev T_sl_api_Entry : Nat := 26
abbrev T_api_Code : Nat := 29
abbrev T_sl_u64 : Nat := 34
abbrev T_u64 : Nat := 35
abbrev T_api_Entry : Nat := 37
abbrev T_api_Box : Nat := 56
abbrev T_api_Sums : Nat := 60
abbrev T_law07_Act : Nat := 73
abbrev T_p_walk_Cursor : Nat := 76
abbrev T_p_node_Node : Nat := 80
abbrev T_t112 : Nat := 112
abbrev T_window_search : Nat := 114
abbrev T_sl_p_node_Node : Nat := 119
abbrev T_walk_Cursor : Nat := 129
abbrev T_tree_Tree : Nat := 134
abbrev T_p_slots_Slots_node_Node : Nat := 136
abbrev T_node_Node : Nat := 138
abbrev T_sets_joiner : Nat := 148
abbrev T_near_pile : Nat := 154
abbrev T_near_finder : Nat := 156
abbrev T_near_item : Nat := 159
abbrev T_p_near_pile : Nat := 161
abbrev T_mask_Mask : Nat := 165
abbrev T_sl_i64 : Nat := 170
abbrev T_api_Shape : Nat := 172
abbrev T_sl_walk_step : Nat := 186
abbrev T_walk_step : Nat := 188
abbrev T_sl_slots_cell_node_Node : Nat := 190
abbrev T_slots_Slots_node_Node : Nat := 192
abbrev T_slots_cell_node_Node : Nat := 194
abbrev T_t208 : Nat := 208
/-! pantile/pantilelaw10.RankRows -/
abbrev F_law10_RankRows : Nat := 3
noncomputable def c_law10_RankRows : Code := Try.f3.body.getD .skip
theorem e_law10_RankRows {args : List Value} {w : World} {R : Value → World → Prop} (hl : Nat.ble args.length 97 = true) (h : den Try.prog tt 97 sc0 c_law10_RankRows (fnK tt [(.tmp 6)] R) (env0 args) w) : CallK Try.prog F_law10_RankRows args R w :=
  callK_of_den tt_ok hmix (by kernel_rfl) Try.func3 rfl rfl rfl hl (by kernel_rfl) h
/-! pantile/pantilelaw15.SetsAsk -/
abbrev F_law15_SetsAsk : Nat := 4
noncomputable def c_law15_SetsAsk : Code := Try.f4.body.getD .skip
theorem e_law15_SetsAsk {args : List Value} {w : World} {R : Value → World → Prop} (hl : Nat.ble args.length 117 = true) (h : den Try.prog tt 117 sc0 c_law15_SetsAsk (fnK tt [(.tmp 8)] R) (env0 args) w) : CallK Try.prog F_law15_SetsAsk args R w :=
  callK_of_den tt_ok hmix (by kernel_rfl) Try.func4 rfl rfl rfl hl (by kernel_rfl) h
/-! pantile/pantilelaw11.NearWithin -/
abbrev F_law11_NearWithin : Nat := 5
noncomputable def c_law11_NearWithin : Code := Try.f5.body.getD .skip
theorem e_law11_NearWithin {args : List Value} {w : World} {R : Value → World → Prop} (hl : Nat.ble args.length 107 = true) (h : den Try.prog tt 107 sc0 c_law11_NearWithin (fnK tt [(.tmp 8)] R) (env0 args) w) : CallK Try.prog F_law11_NearWithin args R w :=
  callK_of_den tt_ok hmix (by kernel_rfl) Try.func5 rfl rfl rfl hl (by kernel_rfl) h
/-! pantile/pantilelaw11.NearGrows -/
abbrev F_law11_NearGrows : Nat := 6
noncomputable def c_law11_NearGrows : Code := Try.f6.body.getD .skip
theorem e_law11_NearGrows {args : List Value} {w : World} {R : Value → World → Prop} (hl : Nat.ble args.length 131 = true) (h : den Try.prog tt 131 sc0 c_law11_NearGrows (fnK tt [(.tmp 8)] R) (env0 args) w) : CallK Try.prog F_law11_NearGrows args R w :=
  callK_of_den tt_ok hmix (by kernel_rfl) Try.func6 rfl rfl rfl hl (by kernel_rfl) h
/-! pantile/pantilelaw10.RankOf -/
abbrev F_law10_RankOf : Nat := 7
noncomputable def c_law10_RankOf : Code := Try.f7.body.getD .skip
def sc_law10_RankOf : Nat → Sc := fun i => bif Nat.beq i 13 then .take 0 9 (.take 1 2 (.take 2 3 (.take 3 4 (.take 4 7 (.take 5 6 (.take 6 7 (.take 7 8 (.take 8 9 (.take 9 10 (.take 10 11 (.take 11 12 (.take 12 13 (.take 13 14 (.take 14 15 (.take 15 16 (.take 16 17 (.take 17 18 (.take 18 19 (.take 19 20 (.take 20 21 (.take 21 22 (.take 22 23 (.take 23 24 (.take 24 25 (.take 25 26 (.take 26 27 (.take 27 28 (.take 28 29 (.take 30 34 (.take 31 34 (.take 32 33 (.take 33 34 (.take 34 35 (.one 29 (.one 35 (.take 36 37 (.take 37 38 (.one 38 (.done))))))))))))))))))))))))))))))))))))))) else .done
theorem e_law10_RankOf {args : List Value} {w : World} {R : Value → World → Prop} (hl : Nat.ble args.length 140 = true) (h : den Try.prog tt 140 sc_law10_RankOf c_law10_RankOf (fnK tt [(.tmp 10)] R) (env0 args) w) : CallK Try.prog F_law10_RankOf args R w :=
  callK_of_den tt_ok hmix (by kernel_rfl) Try.func7 rfl rfl rfl hl (by kernel_rfl) h
/-! pantile/pantilelaw09.WindowHalves -/
abbrev F_law09_WindowHalves : Nat := 8
noncomputable def c_law09_WindowHalves : Code := Try.f8.body.getD .skip
def sc_law09_WindowHalves : Nat → Sc := fun i => bif Nat.beq i 8 then .take 0 1 (.take 1 6 (.take 3 4 (.take 4 5 (.two 2 (.two 5 (.take 6 8 (.one 7 (.one 8 (.done)))) 7 (.one 5 (.take 6 8 (.one 8 (.done))))) 7 (.one 2 (.one 5 (.take 6 8 (.one 8 (.done))))))))) else bif Nat.beq i 9 then .take 1 2 (.take 2 3 (.take 4 5 (.take 5 6 (.two 0 (.two 3 (.take 6 8 (.one 7 (.one 8 (.done)))) 7 (.one 3 (.take 6 8 (.one 8 (.done))))) 7 (.one 0 (.one 3 (.take 6 8 (.one 8 (.done))))))))) else bif Nat.beq i 21 then .take 0 11 (.take 1 3 (.take 2 3 (.take 3 4 (.take 4 5 (.take 5 11 (.take 6 8 (.take 7 8 (.take 8 9 (.take 9 10 (.take 10 11 (.one 11 (.one 12 (.done))))))))))))) else .done
theorem e_law09_WindowHalves {args : List Value} {w : World} {R : Value → World → Prop} (hl : Nat.ble args.length 206 = true) (h : den Try.prog tt 206 sc_law09_WindowHalves c_law09_WindowHalves (fnK tt [(.tmp 10)] R) (env0 args) w) : CallK Try.prog F_law09_WindowHalves args R w :=
  callK_of_den tt_ok hmix (by kernel_rfl) Try.func8 rfl rfl rfl hl (by kernel_rfl) h
/-! pantile/pantilelaw09.WindowNil -/
abbrev F_law09_WindowNil : Nat := 9
noncomputable def c_law09_WindowNil : Code := Try.f9.body.getD .skip
theorem e_law09_WindowNil {args : List Value} {w : World} {R : Value → World → Prop} (hl : Nat.ble args.length 92 = true) (h : den Try.prog tt 92 sc0 c_law09_WindowNil (fnK tt [(.tmp 4)] R) (env0 args) w) : CallK Try.prog F_law09_WindowNil args R w :=
  callK_of_den tt_ok hmix (by kernel_rfl) Try.func9 rfl rfl rfl hl (by kernel_rfl) h
/-! pantile/pantilelaw10.awake -/
abbrev F_law10_awake : Nat := 10
noncomputable def c_law10_awake : Code := Try.f10.body.getD .skip
theorem e_law10_awake {args : List Value} {w : World} {R : Value → World → Prop} (hl : Nat.ble args.length 39 = true) (h : den Try.prog tt 39 sc0 c_law10_awake (fnK tt [(.tmp 0)] R) (env0 args) w) : CallK Try.prog F_law10_awake args R w :=
  callK_of_den tt_ok hmix (by kernel_rfl) Try.func10 rfl rfl rfl hl (by kernel_rfl) h
/-! pantile/pantilelaw07.Heavy -/
abbrev F_law07_Heavy : Nat := 11
noncomputable def c_law07_Heavy : Code := Try.f11.body.getD .skip
theorem e_law07_Heavy {args : List Value} {w : World} {R : Value → World → Prop} (hl : Nat.ble args.length 23 = true) (h : den Try.prog tt 23 sc0 c_law07_Heavy (fnK tt [(.tmp 4)] R) (env0 args) w) : CallK Try.prog F_law07_Heavy args R w :=
  callK_of_den tt_ok hmix (by kernel_rfl) Try.func11 rfl rfl rfl hl (by kernel_rfl) h
/-! pantile/pantilelaw07.Grown -/
abbrev F_law07_Grown : Nat := 12
noncomputable def c_law07_Grown : Code := Try.f12.body.getD .skip
theorem e_law07_Grown {args : List Value} {w : World} {R : Value → World → Prop} (hl : Nat.ble args.length 45 = true) (h : den Try.prog tt 45 sc0 c_law07_Grown (fnK tt [(.tmp 4), (.tmp 5), (.tmp 6)] R) (env0 args) w) : CallK Try.prog F_law07_Grown args R w :=
  callK_of_den tt_ok hmix (by kernel_rfl) Try.func12 rfl rfl rfl hl (by kernel_rfl) h
/-! pantile/rank.Range -/
abbrev F_rank_Range : Nat := 13
noncomputable def c_rank_Range : Code := Try.f13.body.getD .skip
theorem e_rank_Range {args : List Value} {w : World} {R : Value → World → Prop} (hl : Nat.ble args.length 50 = true) (h : den Try.prog tt 50 sc0 c_rank_Range (fnK tt [(.tmp 6), (.tmp 7)] R) (env0 args) w) : CallK Try.prog F_rank_Range args R w :=
  callK_of_den tt_ok hmix (by kernel_rfl) Try.func13 rfl rfl rfl hl (by kernel_rfl) h
/-! pantile/rank.Of -/
abbrev F_rank_Of : Nat := 14
noncomputable def c_rank_Of : Code := Try.f14.body.getD .skip
theorem e_rank_Of {args : List Value} {w : World} {R : Value → World → Prop} (hl : Nat.ble args.length 76 = true) (h : den Try.prog tt 76 sc0 c_rank_Of (fnK tt [(.tmp 4), (.tmp 5)] R) (env0 args) w) : CallK Try.prog F_rank_Of args R w :=
  callK_of_den tt_ok hmix (by kernel_rfl) Try.func14 rfl rfl rfl hl (by kernel_rfl) h
/-! pantile/pantileref01.SameEntries -/
abbrev F_ref01_SameEntries : Nat := 15
noncomputable def c_ref01_SameEntries : Code := Try.f15.body.getD .skip
def sc_ref01_SameEntries : Nat → Sc := fun i => bif Nat.beq i 6 then .take 0 2 (.take 1 2 (.take 2 3 (.take 3 4 (.take 4 10 (.take 5 7 (.take 6 7 (.take 7 8 (.take 8 9 (.take 9 10 (.take 10 11 (.take 11 12 (.take 12 14 (.take 13 14 (.take 14 15 (.take 15 16 (.take 16 22 (.take 17 19 (.take 18 19 (.take 19 20 (.take 20 21 (.take 21 22 (.one 22 (.take 23 24 (.one 24 (.done))))))))))))))))))))))))) else .done
theorem e_ref01_SameEntries {args : List Value} {w : World} {R : Value → World → Prop} (hl : Nat.ble args.length 42 = true) (h : den Try.prog tt 42 sc_ref01_SameEntries c_ref01_SameEntries (fnK tt [(.tmp 4)] R) (env0 args) w) : CallK Try.prog F_ref01_SameEntries args R w :=
  callK_of_den tt_ok hmix (by kernel_rfl) Try.func15 rfl rfl rfl hl (by kernel_rfl) h
/-! pantile/pantilelaw15.awake -/
abbrev F_law15_awake : Nat := 16
noncomputable def c_law15_awake : Code := Try.f16.body.getD .skip
theorem e_law15_awake {args : List Value} {w : World} {R : Value → World → Prop} (hl : Nat.ble args.length 79 = true) (h : den Try.prog tt 79 sc0 c_law15_awake (fnK tt [(.tmp 0)] R) (env0 args) w) : CallK Try.prog F_law15_awake args R w :=
  callK_of_den tt_ok hmix (by kernel_rfl) Try.func16 rfl rfl rfl hl (by kernel_rfl) h
/-! pantile/sets.Subset -/
abbrev F_sets_Subset : Nat := 17
noncomputable def c_sets_Subset : Code := Try.f17.body.getD .skip
theorem e_sets_Subset {args : List Value} {w : World} {R : Value → World → Prop} (hl : Nat.ble args.length 37 = true) (h : den Try.prog tt 37 sc0 c_sets_Subset (fnK tt [(.tmp 4), (.tmp 5)] R) (env0 args) w) : CallK Try.prog F_sets_Subset args R w :=
  callK_of_den tt_ok hmix (by kernel_rfl) Try.func17 rfl rfl rfl hl (by kernel_rfl) h
/-! pantile/sets.Touch -/
abbrev F_sets_Touch : Nat := 18
noncomputable def c_sets_Touch : Code := Try.f18.body.getD .skip
theorem e_sets_Touch {args : List Value} {w : World} {R : Value → World → Prop} (hl : Nat.ble args.length 18 = true) (h : den Try.prog tt 18 sc0 c_sets_Touch (fnK tt [(.tmp 4), (.tmp 5)] R) (env0 args) w) : CallK Try.prog F_sets_Touch args R w :=
  callK_of_den tt_ok hmix (by kernel_rfl) Try.func18 rfl rfl rfl hl (by kernel_rfl) h
/-! pantile/pantileref15.Join -/
abbrev F_ref15_Join : Nat := 19
noncomputable def c_ref15_Join : Code := Try.f19.body.getD .skip
def sc_ref15_Join : Nat → Sc := fun i => bif Nat.beq i 9 then .take 0 12 (.take 1 3 (.take 2 3 (.take 3 4 (.take 4 5 (.take 5 10 (.take 6 9 (.take 7 9 (.take 8 9 (.one 9 (.take 10 11 (.one 11 (.fin 12 (.one 13 (.done)))))))))))))) else .done
theorem e_ref15_Join {args : List Value} {w : World} {R : Value → World → Prop} (hl : Nat.ble args.length 107 = true) (h : den Try.prog tt 107 sc_ref15_Join c_ref15_Join (fnK tt [(.tmp 12)] R) (env0 args) w) : CallK Try.prog F_ref15_Join args R w :=
  callK_of_den tt_ok hmix (by kernel_rfl) Try.func19 rfl rfl rfl hl (by kernel_rfl) h
/-! pantile/pantilelaw11.awake -/
abbrev F_law11_awake : Nat := 20
noncomputable def c_law11_awake : Code := Try.f20.body.getD .skip
theorem e_law11_awake {args : List Value} {w : World} {R : Value → World → Prop} (hl : Nat.ble args.length 61 = true) (h : den Try.prog tt 61 sc0 c_law11_awake (fnK tt [(.tmp 0)] R) (env0 args) w) : CallK Try.prog F_law11_awake args R w :=
  callK_of_den tt_ok hmix (by kernel_rfl) Try.func20 rfl rfl rfl hl (by kernel_rfl) h
/-! pantile/near.Within -/
abbrev F_near_Within : Nat := 21
noncomputable def c_near_Within : Code := Try.f21.body.getD .skip
theorem e_near_Within {args : List Value} {w : World} {R : Value → World → Prop} (hl : Nat.ble args.length 41 = true) (h : den Try.prog tt 41 sc0 c_near_Within (fnK tt [(.tmp 6), (.tmp 7)] R) (env0 args) w) : CallK Try.prog F_near_Within args R w :=
  callK_of_den tt_ok hmix (by kernel_rfl) Try.func21 rfl rfl rfl hl (by kernel_rfl) h
/-! pantile/pantileref11.All -/
abbrev F_ref11_All : Nat := 22
noncomputable def c_ref11_All : Code := Try.f22.body.getD .skip
def sc_ref11_All : Nat → Sc := fun i => bif Nat.beq i 6 then .take 0 3 (.take 1 2 (.take 2 3 (.take 3 4 (.take 4 5 (.take 5 7 (.take 6 7 (.take 7 8 (.take 8 9 (.take 9 11 (.take 10 11 (.take 12 14 (.take 13 14 (.take 14 15 (.take 15 16 (.take 16 18 (.take 17 18 (.one 11 (.one 18 (.take 19 20 (.one 20 (.done))))))))))))))))))))) else bif Nat.beq i 8 then .take 1 3 (.take 2 3 (.take 3 4 (.take 5 7 (.take 6 7 (.take 7 8 (.take 8 9 (.two 0 (.two 4 (.one 9 (.fin 10 (.one 11 (.done)))) 9 (.fin 4 (.fin 10 (.one 11 (.done))))) 9 (.one 0 (.fin 4 (.fin 10 (.one 11 (.done)))))))))))) else .done
theorem e_ref11_All {args : List Value} {w : World} {R : Value → World → Prop} (hl : Nat.ble args.length 56 = true) (h : den Try.prog tt 56 sc_ref11_All c_ref11_All (fnK tt [(.tmp 4)] R) (env0 args) w) : CallK Try.prog F_ref11_All args R w :=
  callK_of_den tt_ok hmix (by kernel_rfl) Try.func22 rfl rfl rfl hl (by kernel_rfl) h
/-! pantile/pantileref03.Far -/
abbrev F_ref03_Far : Nat := 23
noncomputable def c_ref03_Far : Code := Try.f23.body.getD .skip
def sc_ref03_Far : Nat → Sc := fun i => bif Nat.beq i 5 then .take 0 2 (.take 1 2 (.take 2 3 (.take 3 8 (.take 4 6 (.take 5 6 (.take 6 7 (.take 7 8 (.take 8 9 (.one 9 (.done)))))))))) else bif Nat.beq i 6 then .take 0 2 (.take 1 2 (.take 2 3 (.take 3 8 (.take 4 6 (.take 5 6 (.take 6 7 (.take 7 8 (.one 8 (.done))))))))) else bif Nat.beq i 7 then .take 0 2 (.take 1 2 (.take 2 3 (.take 3 8 (.take 4 6 (.take 5 6 (.take 6 7 (.take 7 8 (.take 8 9 (.one 9 (.done)))))))))) else .done
theorem e_ref03_Far {args : List Value} {w : World} {R : Value → World → Prop} (hl : Nat.ble args.length 46 = true) (h : den Try.prog tt 46 sc_ref03_Far c_ref03_Far (fnK tt [(.tmp 4)] R) (env0 args) w) : CallK Try.prog F_ref03_Far args R w :=
  callK_of_den tt_ok hmix (by kernel_rfl) Try.func23 rfl rfl rfl hl (by kernel_rfl) h
/-! pantile/near.To -/
abbrev F_near_To : Nat := 24
noncomputable def c_near_To : Code := Try.f24.body.getD .skip
theorem e_near_To {args : List Value} {w : World} {R : Value → World → Prop} (hl : Nat.ble args.length 42 = true) (h : den Try.prog tt 42 sc0 c_near_To (fnK tt [(.tmp 6), (.tmp 7)] R) (env0 args) w) : CallK Try.prog F_near_To args R w :=
  callK_of_den tt_ok hmix (by kernel_rfl) Try.func24 rfl rfl rfl hl (by kernel_rfl) h
/-! pantile/rank.Nth -/
abbrev F_rank_Nth : Nat := 25
noncomputable def c_rank_Nth : Code := Try.f25.body.getD .skip
theorem e_rank_Nth {args : List Value} {w : World} {R : Value → World → Prop} (hl : Nat.ble args.length 25 = true) (h : den Try.prog tt 25 sc0 c_rank_Nth (fnK tt [(.cell 4 37), (.tmp 5), (.tmp 6)] R) (env0 args) w) : CallK Try.prog F_rank_Nth args R w :=
  callK_of_den tt_ok hmix (by kernel_rfl) Try.func25 rfl rfl rfl hl (by kernel_rfl) h
/-! pantile/pantileref10.Range -/
abbrev F_ref10_Range : Nat := 26
noncomputable def c_ref10_Range : Code := Try.f26.body.getD .skip
theorem e_ref10_Range {args : List Value} {w : World} {R : Value → World → Prop} (hl : Nat.ble args.length 32 = true) (h : den Try.prog tt 32 sc0 c_ref10_Range (fnK tt [(.tmp 6)] R) (env0 args) w) : CallK Try.prog F_ref10_Range args R w :=
  callK_of_den tt_ok hmix (by kernel_rfl) Try.func26 rfl rfl rfl hl (by kernel_rfl) h
/-! pantile/pantileref08.From -/
abbrev F_ref08_From : Nat := 27
noncomputable def c_ref08_From : Code := Try.f27.body.getD .skip
theorem e_ref08_From {args : List Value} {w : World} {R : Value → World → Prop} (hl : Nat.ble args.length 23 = true) (h : den Try.prog tt 23 sc0 c_ref08_From (fnK tt [(.tmp 4)] R) (env0 args) w) : CallK Try.prog F_ref08_From args R w :=
  callK_of_den tt_ok hmix (by kernel_rfl) Try.func27 rfl rfl rfl hl (by kernel_rfl) h
/-! pantile/pantilelaw09.awake -/
abbrev F_law09_awake : Nat := 28
noncomputable def c_law09_awake : Code := Try.f28.body.getD .skip
theorem e_law09_awake {args : List Value} {w : World} {R : Value → World → Prop} (hl : Nat.ble args.length 46 = true) (h : den Try.prog tt 46 sc0 c_law09_awake (fnK tt [(.tmp 0)] R) (env0 args) w) : CallK Try.prog F_law09_awake args R w :=
  callK_of_den tt_ok hmix (by kernel_rfl) Try.func28 rfl rfl rfl hl (by kernel_rfl) h
/-! pantile/pantileref03.Right -/
abbrev F_ref03_Right : Nat := 29
noncomputable def c_ref03_Right : Code := Try.f29.body.getD .skip
theorem e_ref03_Right {args : List Value} {w : World} {R : Value → World → Prop} (hl : Nat.ble args.length 8 = true) (h : den Try.prog tt 8 sc0 c_ref03_Right (fnK tt [(.tmp 2)] R) (env0 args) w) : CallK Try.prog F_ref03_Right args R w :=
  callK_of_den tt_ok hmix (by kernel_rfl) Try.func29 rfl rfl rfl hl (by kernel_rfl) h
/-! pantile/window.Find -/
abbrev F_window_Find : Nat := 30
noncomputable def c_window_Find : Code := Try.f30.body.getD .skip
def sc_window_Find : Nat → Sc := fun i => bif Nat.beq i 4 then .take 0 4 (.take 1 4 (.take 2 3 (.one 3 (.one 4 (.take 5 6 (.take 6 9 (.take 7 10 (.take 8 11 (.take 9 10 (.take 10 11 (.one 11 (.done)))))))))))) else .done
theorem e_window_Find {args : List Value} {w : World} {R : Value → World → Prop} (hl : Nat.ble args.length 27 = true) (h : den Try.prog tt 27 sc_window_Find c_window_Find (fnK tt [(.tmp 4), (.tmp 5)] R) (env0 args) w) : CallK Try.prog F_window_Find args R w :=
  callK_of_den tt_ok hmix (by kernel_rfl) Try.func30 rfl rfl rfl hl (by kernel_rfl) h
/-! pantile/window.Sums -/
abbrev F_window_Sums : Nat := 31
noncomputable def c_window_Sums : Code := Try.f31.body.getD .skip
theorem e_window_Sums {args : List Value} {w : World} {R : Value → World → Prop} (hl : Nat.ble args.length 26 = true) (h : den Try.prog tt 26 sc0 c_window_Sums (fnK tt [(.cell 4 60), (.tmp 5)] R) (env0 args) w) : CallK Try.prog F_window_Sums args R w :=
  callK_of_den tt_ok hmix (by kernel_rfl) Try.func31 rfl rfl rfl hl (by kernel_rfl) h
/-! pantile/pantileref06.Put -/
abbrev F_ref06_Put : Nat := 32
noncomputable def c_ref06_Put : Code := Try.f32.body.getD .skip
theorem e_ref06_Put {args : List Value} {w : World} {R : Value → World → Prop} (hl : Nat.ble args.length 34 = true) (h : den Try.prog tt 34 sc0 c_ref06_Put (fnK tt [(.tmp 6)] R) (env0 args) w) : CallK Try.prog F_ref06_Put args R w :=
  callK_of_den tt_ok hmix (by kernel_rfl) Try.func32 rfl rfl rfl hl (by kernel_rfl) h
/-! pantile/pantilelaw09.big -/
abbrev F_law09_big : Nat := 33
noncomputable def c_law09_big : Code := Try.f33.body.getD .skip
theorem e_law09_big {args : List Value} {w : World} {R : Value → World → Prop} (hl : Nat.ble args.length 13 = true) (h : den Try.prog tt 13 sc0 c_law09_big (fnK tt [(.tmp 2)] R) (env0 args) w) : CallK Try.prog F_law09_big args R w :=
  callK_of_den tt_ok hmix (by kernel_rfl) Try.func33 rfl rfl rfl hl (by kernel_rfl) h
/-! pantile/window.Some -/
abbrev F_window_Some : Nat := 34
noncomputable def c_window_Some : Code := Try.f34.body.getD .skip
def sc_window_Some : Nat → Sc := fun i => bif Nat.beq i 8 then .take 0 5 (.take 1 4 (.take 2 3 (.take 3 4 (.take 4 5 (.take 5 10 (.take 6 7 (.take 7 9 (.take 8 9 (.take 9 11 (.take 10 11 (.take 11 12 (.one 12 (.done))))))))))))) else .done
theorem e_window_Some {args : List Value} {w : World} {R : Value → World → Prop} (hl : Nat.ble args.length 38 = true) (h : den Try.prog tt 38 sc_window_Some c_window_Some (fnK tt [(.tmp 6), (.tmp 7), (.tmp 8)] R) (env0 args) w) : CallK Try.prog F_window_Some args R w :=
  callK_of_den tt_ok hmix (by kernel_rfl) Try.func34 rfl rfl rfl hl (by kernel_rfl) h
/-! pantile/window.Clear -/
abbrev F_window_Clear : Nat := 35
noncomputable def c_window_Clear : Code := Try.f35.body.getD .skip
theorem e_window_Clear {args : List Value} {w : World} {R : Value → World → Prop} (hl : Nat.ble args.length 32 = true) (h : den Try.prog tt 32 sc0 c_window_Clear (fnK tt [(.tmp 4), (.tmp 5)] R) (env0 args) w) : CallK Try.prog F_window_Clear args R w :=
  callK_of_den tt_ok hmix (by kernel_rfl) Try.func35 rfl rfl rfl hl (by kernel_rfl) h
/-! pantile/window.Keep -/
abbrev F_window_Keep : Nat := 36
noncomputable def c_window_Keep : Code := Try.f36.body.getD .skip
theorem e_window_Keep {args : List Value} {w : World} {R : Value → World → Prop} (hl : Nat.ble args.length 41 = true) (h : den Try.prog tt 41 sc0 c_window_Keep (fnK tt [(.tmp 4), (.tmp 5)] R) (env0 args) w) : CallK Try.prog F_window_Keep args R w :=
  callK_of_den tt_ok hmix (by kernel_rfl) Try.func36 rfl rfl rfl hl (by kernel_rfl) h
/-! pantile/tree.New -/
abbrev F_tree_New : Nat := 37
noncomputable def c_tree_New : Code := Try.f37.body.getD .skip
theorem e_tree_New {args : List Value} {w : World} {R : Value → World → Prop} (hl : Nat.ble args.length 8 = true) (h : den Try.prog tt 8 sc0 c_tree_New (fnK tt [(.tmp 2), (.tmp 3)] R) (env0 args) w) : CallK Try.prog F_tree_New args R w :=
  callK_of_den tt_ok hmix (by kernel_rfl) Try.func37 rfl rfl rfl hl (by kernel_rfl) h
/-! (*pantile/tree.Tree).Put -/
abbrev F_tree_Tree_Put : Nat := 38
noncomputable def c_tree_Tree_Put : Code := Try.f38.body.getD .skip
theorem e_tree_Tree_Put {args : List Value} {w : World} {R : Value → World → Prop} (hl : Nat.ble args.length 66 = true) (h : den Try.prog tt 66 sc0 c_tree_Tree_Put (fnK tt [(.tmp 6), (.tmp 7)] R) (env0 args) w) : CallK Try.prog F_tree_Tree_Put args R w :=
  callK_of_den tt_ok hmix (by kernel_rfl) Try.func38 rfl rfl rfl hl (by kernel_rfl) h
/-! pantile/pantilelaw07.Done -/
abbrev F_law07_Done : Nat := 39
noncomputable def c_law07_Done : Code := Try.f39.body.getD .skip
def sc_law07_Done : Nat → Sc := fun i => bif Nat.beq i 14 then .take 0 26 (.take 1 6 (.take 2 3 (.take 3 6 (.take 4 5 (.take 5 6 (.take 7 8 (.take 8 9 (.one 6 (.take 9 10 (.take 10 11 (.take 11 12 (.take 12 13 (.take 13 14 (.take 14 15 (.take 15 16 (.take 16 19 (.take 17 18 (.take 18 19 (.take 19 20 (.take 20 24 (.take 21 23 (.take 22 23 (.take 23 24 (.take 24 25 (.take 25 28 (.take 26 27 (.take 27 28 (.one 28 (.done))))))))))))))))))))))))))))) else .done
theorem e_law07_Done {args : List Value} {w : World} {R : Value → World → Prop} (hl : Nat.ble args.length 125 = true) (h : den Try.prog tt 125 sc_law07_Done c_law07_Done (fnK tt [(.tmp 6), (.tmp 7), (.tmp 8)] R) (env0 args) w) : CallK Try.prog F_law07_Done args R w :=
  callK_of_den tt_ok hmix (by kernel_rfl) Try.func39 rfl rfl rfl hl (by kernel_rfl) h
/-! (*pantile/tree.Tree).Len -/
abbrev F_tree_Tree_Len : Nat := 40
noncomputable def c_tree_Tree_Len : Code := Try.f40.body.getD .skip
theorem e_tree_Tree_Len {args : List Value} {w : World} {R : Value → World → Prop} (hl : Nat.ble args.length 8 = true) (h : den Try.prog tt 8 sc0 c_tree_Tree_Len (fnK tt [(.tmp 2)] R) (env0 args) w) : CallK Try.prog F_tree_Tree_Len args R w :=
  callK_of_den tt_ok hmix (by kernel_rfl) Try.func40 rfl rfl rfl hl (by kernel_rfl) h
/-! pantile/walk.New -/
abbrev F_walk_New : Nat := 41
noncomputable def c_walk_New : Code := Try.f41.body.getD .skip
theorem e_walk_New {args : List Value} {w : World} {R : Value → World → Prop} (hl : Nat.ble args.length 17 = true) (h : den Try.prog tt 17 sc0 c_walk_New (fnK tt [(.tmp 2)] R) (env0 args) w) : CallK Try.prog F_walk_New args R w :=
  callK_of_den tt_ok hmix (by kernel_rfl) Try.func41 rfl rfl rfl hl (by kernel_rfl) h
/-! (*pantile/walk.Cursor).Seek -/
abbrev F_walk_Cursor_Seek : Nat := 42
noncomputable def c_walk_Cursor_Seek : Code := Try.f42.body.getD .skip
theorem e_walk_Cursor_Seek {args : List Value} {w : World} {R : Value → World → Prop} (hl : Nat.ble args.length 28 = true) (h : den Try.prog tt 28 sc0 c_walk_Cursor_Seek (fnK tt [(.tmp 4)] R) (env0 args) w) : CallK Try.prog F_walk_Cursor_Seek args R w :=
  callK_of_den tt_ok hmix (by kernel_rfl) Try.func42 rfl rfl rfl hl (by kernel_rfl) h
/-! pantile/rank.nth -/
abbrev F_rank_nth : Nat := 43
noncomputable def c_rank_nth : Code := Try.f43.body.getD .skip
theorem e_rank_nth {args : List Value} {w : World} {R : Value → World → Prop} (hl : Nat.ble args.length 37 = true) (h : den Try.prog tt 37 sc0 c_rank_nth (fnK tt [(.cell 4 37)] R) (env0 args) w) : CallK Try.prog F_rank_nth args R w :=
  callK_of_den tt_ok hmix (by kernel_rfl) Try.func43 rfl rfl rfl hl (by kernel_rfl) h
/-! (*pantile/tree.Tree).Root -/
abbrev F_tree_Tree_Root : Nat := 44
noncomputable def c_tree_Tree_Root : Code := Try.f44.body.getD .skip
theorem e_tree_Tree_Root {args : List Value} {w : World} {R : Value → World → Prop} (hl : Nat.ble args.length 9 = true) (h : den Try.prog tt 9 sc0 c_tree_Tree_Root (fnK tt [(.tmp 2)] R) (env0 args) w) : CallK Try.prog F_tree_Tree_Root args R w :=
  callK_of_den tt_ok hmix (by kernel_rfl) Try.func44 rfl rfl rfl hl (by kernel_rfl) h
/-! (*pantile/walk.Cursor).Next -/
abbrev F_walk_Cursor_Next : Nat := 45
noncomputable def c_walk_Cursor_Next : Code := Try.f45.body.getD .skip
def sc_walk_Cursor_Next : Nat → Sc := fun i => bif Nat.beq i 3 then .take 0 1 (.take 1 2 (.take 2 3 (.take 3 4 (.take 5 6 (.take 6 7 (.take 7 8 (.take 8 9 (.two 4 (.two 9 (.take 10 11 (.take 11 14 (.take 12 15 (.one 13 (.one 14 (.one 15 (.done))))))) 13 (.one 9 (.take 10 11 (.take 11 14 (.take 12 15 (.one 14 (.one 15 (.done)))))))) 13 (.one 4 (.one 9 (.take 10 11 (.take 11 14 (.take 12 15 (.one 14 (.one 15 (.done)))))))))))))))) else bif Nat.beq i 4 then .take 0 13 (.take 1 2 (.take 2 3 (.take 3 4 (.take 4 5 (.take 6 7 (.take 7 8 (.take 8 9 (.take 9 10 (.one 5 (.one 10 (.take 11 13 (.take 12 13 (.one 13 (.done)))))))))))))) else .done
theorem e_walk_Cursor_Next {args : List Value} {w : World} {R : Value → World → Prop} (hl : Nat.ble args.length 44 = true) (h : den Try.prog tt 44 sc_walk_Cursor_Next c_walk_Cursor_Next (fnK tt [(.cell 2 37), (.tmp 3)] R) (env0 args) w) : CallK Try.prog F_walk_Cursor_Next args R w :=
  callK_of_den tt_ok hmix (by kernel_rfl) Try.func45 rfl rfl rfl hl (by kernel_rfl) h
/-! pantile/rank.check -/
abbrev F_rank_check : Nat := 46
noncomputable def c_rank_check : Code := Try.f46.body.getD .skip
theorem e_rank_check {args : List Value} {w : World} {R : Value → World → Prop} (hl : Nat.ble args.length 14 = true) (h : den Try.prog tt 14 sc0 c_rank_check (fnK tt [(.tmp 4)] R) (env0 args) w) : CallK Try.prog F_rank_check args R w :=
  callK_of_den tt_ok hmix (by kernel_rfl) Try.func46 rfl rfl rfl hl (by kernel_rfl) h
/-! (*pantile/node.Node).Covers -/
abbrev F_node_Node_Covers : Nat := 47
noncomputable def c_node_Node_Covers : Code := Try.f47.body.getD .skip
theorem e_node_Node_Covers {args : List Value} {w : World} {R : Value → World → Prop} (hl : Nat.ble args.length 28 = true) (h : den Try.prog tt 28 sc0 c_node_Node_Covers (fnK tt [(.tmp 4)] R) (env0 args) w) : CallK Try.prog F_node_Node_Covers args R w :=
  callK_of_den tt_ok hmix (by kernel_rfl) Try.func47 rfl rfl rfl hl (by kernel_rfl) h
/-! pantile/rank.ahead -/
abbrev F_rank_ahead : Nat := 48
noncomputable def c_rank_ahead : Code := Try.f48.body.getD .skip
theorem e_rank_ahead {args : List Value} {w : World} {R : Value → World → Prop} (hl : Nat.ble args.length 16 = true) (h : den Try.prog tt 16 sc0 c_rank_ahead (fnK tt [(.tmp 4)] R) (env0 args) w) : CallK Try.prog F_rank_ahead args R w :=
  callK_of_den tt_ok hmix (by kernel_rfl) Try.func48 rfl rfl rfl hl (by kernel_rfl) h
/-! pantile/rank.count -/
abbrev F_rank_count : Nat := 49
noncomputable def c_rank_count : Code := Try.f49.body.getD .skip
theorem e_rank_count {args : List Value} {w : World} {R : Value → World → Prop} (hl : Nat.ble args.length 7 = true) (h : den Try.prog tt 7 sc0 c_rank_count (fnK tt [(.tmp 2)] R) (env0 args) w) : CallK Try.prog F_rank_count args R w :=
  callK_of_den tt_ok hmix (by kernel_rfl) Try.func49 rfl rfl rfl hl (by kernel_rfl) h
/-! (*pantile/node.Node).Level -/
abbrev F_node_Node_Level : Nat := 50
noncomputable def c_node_Node_Level : Code := Try.f50.body.getD .skip
theorem e_node_Node_Level {args : List Value} {w : World} {R : Value → World → Prop} (hl : Nat.ble args.length 9 = true) (h : den Try.prog tt 9 sc0 c_node_Node_Level (fnK tt [(.tmp 2)] R) (env0 args) w) : CallK Try.prog F_node_Node_Level args R w :=
  callK_of_den tt_ok hmix (by kernel_rfl) Try.func50 rfl rfl rfl hl (by kernel_rfl) h
/-! pantile/zbits.Addr -/
abbrev F_zbits_Addr : Nat := 51
noncomputable def c_zbits_Addr : Code := Try.f51.body.getD .skip
theorem e_zbits_Addr {args : List Value} {w : World} {R : Value → World → Prop} (hl : Nat.ble args.length 33 = true) (h : den Try.prog tt 33 sc0 c_zbits_Addr (fnK tt [(.tmp 4), (.tmp 5)] R) (env0 args) w) : CallK Try.prog F_zbits_Addr args R w :=
  callK_of_den tt_ok hmix (by kernel_rfl) Try.func51 rfl rfl rfl hl (by kernel_rfl) h
/-! (*pantile/node.Node).From -/
abbrev F_node_Node_From : Nat := 52
noncomputable def c_node_Node_From : Code := Try.f52.body.getD .skip
theorem e_node_Node_From {args : List Value} {w : World} {R : Value → World → Prop} (hl : Nat.ble args.length 19 = true) (h : den Try.prog tt 19 sc0 c_node_Node_From (fnK tt [(.tmp 4), (.tmp 5)] R) (env0 args) w) : CallK Try.prog F_node_Node_From args R w :=
  callK_of_den tt_ok hmix (by kernel_rfl) Try.func52 rfl rfl rfl hl (by kernel_rfl) h
/-! (*pantile/node.Node).Kid -/
abbrev F_node_Node_Kid : Nat := 53
noncomputable def c_node_Node_Kid : Code := Try.f53.body.getD .skip
theorem e_node_Node_Kid {args : List Value} {w : World} {R : Value → World → Prop} (hl : Nat.ble args.length 15 = true) (h : den Try.prog tt 15 sc0 c_node_Node_Kid (fnK tt [(.tmp 4)] R) (env0 args) w) : CallK Try.prog F_node_Node_Kid args R w :=
  callK_of_den tt_ok hmix (by kernel_rfl) Try.func53 rfl rfl rfl hl (by kernel_rfl) h
/-! pantile/pantileref01.Same -/
abbrev F_ref01_Same : Nat := 54
noncomputable def c_ref01_Same : Code := Try.f54.body.getD .skip
def sc_ref01_Same : Nat → Sc := fun i => bif Nat.beq i 6 then .take 0 2 (.take 1 2 (.take 2 3 (.take 3 8 (.take 4 6 (.take 5 6 (.take 6 7 (.take 7 8 (.one 8 (.done))))))))) else .done
theorem e_ref01_Same {args : List Value} {w : World} {R : Value → World → Prop} (hl : Nat.ble args.length 26 = true) (h : den Try.prog tt 26 sc_ref01_Same c_ref01_Same (fnK tt [(.tmp 4)] R) (env0 args) w) : CallK Try.prog F_ref01_Same args R w :=
  callK_of_den tt_ok hmix (by kernel_rfl) Try.func54 rfl rfl rfl hl (by kernel_rfl) h
/-! pantile/sets.Union -/
abbrev F_sets_Union : Nat := 55
noncomputable def c_sets_Union : Code := Try.f55.body.getD .skip
theorem e_sets_Union {args : List Value} {w : World} {R : Value → World → Prop} (hl : Nat.ble args.length 15 = true) (h : den Try.prog tt 15 sc0 c_sets_Union (fnK tt [(.tmp 6), (.tmp 7)] R) (env0 args) w) : CallK Try.prog F_sets_Union args R w :=
  callK_of_den tt_ok hmix (by kernel_rfl) Try.func55 rfl rfl rfl hl (by kernel_rfl) h
/-! pantile/sets.Common -/
abbrev F_sets_Common : Nat := 56
noncomputable def c_sets_Common : Code := Try.f56.body.getD .skip
theorem e_sets_Common {args : List Value} {w : World} {R : Value → World → Prop} (hl : Nat.ble args.length 15 = true) (h : den Try.prog tt 15 sc0 c_sets_Common (fnK tt [(.tmp 6), (.tmp 7)] R) (env0 args) w) : CallK Try.prog F_sets_Common args R w :=
  callK_of_den tt_ok hmix (by kernel_rfl) Try.func56 rfl rfl rfl hl (by kernel_rfl) h
/-! (*pantile/tree.Tree).Get -/
abbrev F_tree_Tree_Get : Nat := 57
noncomputable def c_tree_Tree_Get : Code := Try.f57.body.getD .skip
theorem e_tree_Tree_Get {args : List Value} {w : World} {R : Value → World → Prop} (hl : Nat.ble args.length 32 = true) (h : den Try.prog tt 32 sc0 c_tree_Tree_Get (fnK tt [(.tmp 4), (.tmp 5), (.tmp 6)] R) (env0 args) w) : CallK Try.prog F_tree_Tree_Get args R w :=
  callK_of_den tt_ok hmix (by kernel_rfl) Try.func57 rfl rfl rfl hl (by kernel_rfl) h
/-! pantile/sets.check -/
abbrev F_sets_check : Nat := 58
noncomputable def c_sets_check : Code := Try.f58.body.getD .skip
theorem e_sets_check {args : List Value} {w : World} {R : Value → World → Prop} (hl : Nat.ble args.length 27 = true) (h : den Try.prog tt 27 sc0 c_sets_check (fnK tt [(.tmp 6)] R) (env0 args) w) : CallK Try.prog F_sets_check args R w :=
  callK_of_den tt_ok hmix (by kernel_rfl) Try.func58 rfl rfl rfl hl (by kernel_rfl) h
/-! pantile/walk.All -/
abbrev F_walk_All : Nat := 59
noncomputable def c_walk_All : Code := Try.f59.body.getD .skip
theorem e_walk_All {args : List Value} {w : World} {R : Value → World → Prop} (hl : Nat.ble args.length 8 = true) (h : den Try.prog tt 8 sc0 c_walk_All (fnK tt [(.tmp 2)] R) (env0 args) w) : CallK Try.prog F_walk_All args R w :=
  callK_of_den tt_ok hmix (by kernel_rfl) Try.func59 rfl rfl rfl hl (by kernel_rfl) h
/-! pantile/pantileref12.Points -/
abbrev F_ref12_Points : Nat := 60
noncomputable def c_ref12_Points : Code := Try.f60.body.getD .skip
theorem e_ref12_Points {args : List Value} {w : World} {R : Value → World → Prop} (hl : Nat.ble args.length 20 = true) (h : den Try.prog tt 20 sc0 c_ref12_Points (fnK tt [(.tmp 4)] R) (env0 args) w) : CallK Try.prog F_ref12_Points args R w :=
  callK_of_den tt_ok hmix (by kernel_rfl) Try.func60 rfl rfl rfl hl (by kernel_rfl) h
/-! pantile/pantileref06.Get -/
abbrev F_ref06_Get : Nat := 61
noncomputable def c_ref06_Get : Code := Try.f61.body.getD .skip
theorem e_ref06_Get {args : List Value} {w : World} {R : Value → World → Prop} (hl : Nat.ble args.length 21 = true) (h : den Try.prog tt 21 sc0 c_ref06_Get (fnK tt [(.tmp 4), (.tmp 5)] R) (env0 args) w) : CallK Try.prog F_ref06_Get args R w :=
  callK_of_den tt_ok hmix (by kernel_rfl) Try.func61 rfl rfl rfl hl (by kernel_rfl) h
/-! pantile/pantileref15.Value -/
abbrev F_ref15_Value : Nat := 62
noncomputable def c_ref15_Value : Code := Try.f62.body.getD .skip
theorem e_ref15_Value {args : List Value} {w : World} {R : Value → World → Prop} (hl : Nat.ble args.length 37 = true) (h : den Try.prog tt 37 sc0 c_ref15_Value (fnK tt [(.tmp 6)] R) (env0 args) w) : CallK Try.prog F_ref15_Value args R w :=
  callK_of_den tt_ok hmix (by kernel_rfl) Try.func62 rfl rfl rfl hl (by kernel_rfl) h
/-! pantile/near.open -/
abbrev F_near_open : Nat := 63
noncomputable def c_near_open : Code := Try.f63.body.getD .skip
theorem e_near_open {args : List Value} {w : World} {R : Value → World → Prop} (hl : Nat.ble args.length 28 = true) (h : den Try.prog tt 28 sc0 c_near_open (fnK tt [(.tmp 4), (.tmp 5)] R) (env0 args) w) : CallK Try.prog F_near_open args R w :=
  callK_of_den tt_ok hmix (by kernel_rfl) Try.func63 rfl rfl rfl hl (by kernel_rfl) h
/-! (*pantile/near.finder).next -/
abbrev F_near_finder_next : Nat := 64
noncomputable def c_near_finder_next : Code := Try.f64.body.getD .skip
def sc_near_finder_next : Nat → Sc := fun i => bif Nat.beq i 6 then .take 0 3 (.take 1 2 (.take 2 4 (.one 3 (.take 4 5 (.one 5 (.done)))))) else .done
theorem e_near_finder_next {args : List Value} {w : World} {R : Value → World → Prop} (hl : Nat.ble args.length 52 = true) (h : den Try.prog tt 52 sc_near_finder_next c_near_finder_next (fnK tt [(.cell 2 37), (.tmp 3), (.tmp 4)] R) (env0 args) w) : CallK Try.prog F_near_finder_next args R w :=
  callK_of_den tt_ok hmix (by kernel_rfl) Try.func64 rfl rfl rfl hl (by kernel_rfl) h
/-! pantile/pantileref01.Cmp -/
abbrev F_ref01_Cmp : Nat := 65
noncomputable def c_ref01_Cmp : Code := Try.f65.body.getD .skip
theorem e_ref01_Cmp {args : List Value} {w : World} {R : Value → World → Prop} (hl : Nat.ble args.length 18 = true) (h : den Try.prog tt 18 sc0 c_ref01_Cmp (fnK tt [(.tmp 4)] R) (env0 args) w) : CallK Try.prog F_ref01_Cmp args R w :=
  callK_of_den tt_ok hmix (by kernel_rfl) Try.func65 rfl rfl rfl hl (by kernel_rfl) h
/-! pantile/pantileref01.Alike -/
abbrev F_ref01_Alike : Nat := 66
noncomputable def c_ref01_Alike : Code := Try.f66.body.getD .skip
theorem e_ref01_Alike {args : List Value} {w : World} {R : Value → World → Prop} (hl : Nat.ble args.length 14 = true) (h : den Try.prog tt 14 sc0 c_ref01_Alike (fnK tt [(.tmp 4)] R) (env0 args) w) : CallK Try.prog F_ref01_Alike args R w :=
  callK_of_den tt_ok hmix (by kernel_rfl) Try.func66 rfl rfl rfl hl (by kernel_rfl) h
/-! pantile/window.check -/
abbrev F_window_check : Nat := 67
noncomputable def c_window_check : Code := Try.f67.body.getD .skip
def sc_window_check : Nat → Sc := fun i => bif Nat.beq i 3 then .take 0 1 (.one 1 (.take 2 3 (.take 3 4 (.take 4 5 (.take 5 6 (.take 6 9 (.take 7 8 (.one 8 (.take 9 10 (.take 10 11 (.one 11 (.done)))))))))))) else .done
theorem e_window_check {args : List Value} {w : World} {R : Value → World → Prop} (hl : Nat.ble args.length 20 = true) (h : den Try.prog tt 20 sc_window_check c_window_check (fnK tt [(.tmp 4)] R) (env0 args) w) : CallK Try.prog F_window_check args R w :=
  callK_of_den tt_ok hmix (by kernel_rfl) Try.func67 rfl rfl rfl hl (by kernel_rfl) h
/-! pantile/window.Sums$1 -/
abbrev F_window_Sums_1 : Nat := 68
noncomputable def c_window_Sums_1 : Code := Try.f68.body.getD .skip
def sc_window_Sums_1 : Nat → Sc := fun i => bif Nat.beq i 1 then .take 0 3 (.take 1 2 (.one 2 (.one 3 (.one 4 (.done))))) else .done
theorem e_window_Sums_1 {args : List Value} {w : World} {R : Value → World → Prop} (hl : Nat.ble args.length 8 = true) (h : den Try.prog tt 8 sc_window_Sums_1 c_window_Sums_1 (fnK tt [(.tmp 3)] R) (env0 args) w) : CallK Try.prog F_window_Sums_1 args R w :=
  callK_of_den tt_ok hmix (by kernel_rfl) Try.func68 rfl rfl rfl hl (by kernel_rfl) h
/-! pantile/window.add -/
abbrev F_window_add : Nat := 69
noncomputable def c_window_add : Code := Try.f69.body.getD .skip
theorem e_window_add {args : List Value} {w : World} {R : Value → World → Prop} (hl : Nat.ble args.length 36 = true) (h : den Try.prog tt 36 sc0 c_window_add (fnK tt [(.cell 4 60)] R) (env0 args) w) : CallK Try.prog F_window_add args R w :=
  callK_of_den tt_ok hmix (by kernel_rfl) Try.func69 rfl rfl rfl hl (by kernel_rfl) h
/-! (*pantile/node.Node).Sums -/
abbrev F_node_Node_Sums : Nat := 70
noncomputable def c_node_Node_Sums : Code := Try.f70.body.getD .skip
theorem e_node_Node_Sums {args : List Value} {w : World} {R : Value → World → Prop} (hl : Nat.ble args.length 10 = true) (h : den Try.prog tt 10 sc0 c_node_Node_Sums (fnK tt [(.cell 2 60)] R) (env0 args) w) : CallK Try.prog F_node_Node_Sums args R w :=
  callK_of_den tt_ok hmix (by kernel_rfl) Try.func70 rfl rfl rfl hl (by kernel_rfl) h
/-! (*pantile/window.search).down -/
abbrev F_window_search_down : Nat := 71
noncomputable def c_window_search_down : Code := Try.f71.body.getD .skip
def sc_window_search_down : Nat → Sc := fun i => bif Nat.beq i 3 then .take 0 1 (.take 2 3 (.take 4 5 (.take 5 6 (.take 6 7 (.take 7 8 (.one 1 (.one 3 (.one 8 (.take 9 10 (.take 10 12 (.take 11 13 (.take 12 13 (.one 13 (.done)))))))))))))) else bif Nat.beq i 8 then .take 0 1 (.take 2 3 (.take 4 5 (.take 5 6 (.take 6 7 (.take 7 8 (.two 1 (.two 3 (.two 8 (.take 9 10 (.take 10 13 (.take 11 14 (.one 12 (.one 13 (.one 14 (.done))))))) 12 (.one 8 (.take 9 10 (.take 10 13 (.take 11 14 (.one 13 (.one 14 (.done)))))))) 12 (.one 3 (.one 8 (.take 9 10 (.take 10 13 (.take 11 14 (.one 13 (.one 14 (.done))))))))) 12 (.one 1 (.one 3 (.one 8 (.take 9 10 (.take 10 13 (.take 11 14 (.one 13 (.one 14 (.done))))))))))))))) else .done
theorem e_window_search_down {args : List Value} {w : World} {R : Value → World → Prop} (hl : Nat.ble args.length 84 = true) (h : den Try.prog tt 84 sc_window_search_down c_window_search_down (fnK tt [(.tmp 4)] R) (env0 args) w) : CallK Try.prog F_window_search_down args R w :=
  callK_of_den tt_ok hmix (by kernel_rfl) Try.func71 rfl rfl rfl hl (by kernel_rfl) h
/-! pantile/pantileref06.Del -/
abbrev F_ref06_Del : Nat := 72
noncomputable def c_ref06_Del : Code := Try.f72.body.getD .skip
def sc_ref06_Del : Nat → Sc := fun i => bif Nat.beq i 4 then .take 1 3 (.take 2 3 (.take 3 4 (.take 5 8 (.take 6 7 (.take 7 8 (.take 8 9 (.one 0 (.one 4 (.fin 9 (.one 10 (.done))))))))))) else .done
theorem e_ref06_Del {args : List Value} {w : World} {R : Value → World → Prop} (hl : Nat.ble args.length 26 = true) (h : den Try.prog tt 26 sc_ref06_Del c_ref06_Del (fnK tt [(.tmp 4)] R) (env0 args) w) : CallK Try.prog F_ref06_Del args R w :=
  callK_of_den tt_ok hmix (by kernel_rfl) Try.func72 rfl rfl rfl hl (by kernel_rfl) h
/-! pantile/pantileref06.Place -/
abbrev F_ref06_Place : Nat := 73
noncomputable def c_ref06_Place : Code := Try.f73.body.getD .skip
theorem e_ref06_Place {args : List Value} {w : World} {R : Value → World → Prop} (hl : Nat.ble args.length 28 = true) (h : den Try.prog tt 28 sc0 c_ref06_Place (fnK tt [(.tmp 4), (.tmp 5)] R) (env0 args) w) : CallK Try.prog F_ref06_Place args R w :=
  callK_of_den tt_ok hmix (by kernel_rfl) Try.func73 rfl rfl rfl hl (by kernel_rfl) h
/-! pantile/window.Some$1 -/
abbrev F_window_Some_1 : Nat := 74
noncomputable def c_window_Some_1 : Code := Try.f74.body.getD .skip
def sc_window_Some_1 : Nat → Sc := fun i => bif Nat.beq i 1 then .take 0 3 (.take 1 2 (.one 2 (.fin 3 (.one 4 (.done))))) else .done
theorem e_window_Some_1 {args : List Value} {w : World} {R : Value → World → Prop} (hl : Nat.ble args.length 13 = true) (h : den Try.prog tt 13 sc_window_Some_1 c_window_Some_1 (fnK tt [(.tmp 4)] R) (env0 args) w) : CallK Try.prog F_window_Some_1 args R w :=
  callK_of_den tt_ok hmix (by kernel_rfl) Try.func74 rfl rfl rfl hl (by kernel_rfl) h
/-! pantile/window.cleared -/
abbrev F_window_cleared : Nat := 75
noncomputable def c_window_cleared : Code := Try.f75.body.getD .skip
def sc_window_cleared : Nat → Sc := fun i => bif Nat.beq i 1 then .take 0 1 (.take 2 3 (.take 4 5 (.one 1 (.one 3 (.one 5 (.take 6 7 (.take 7 9 (.take 8 10 (.take 9 10 (.one 10 (.done))))))))))) else bif Nat.beq i 6 then .take 0 1 (.take 2 3 (.take 4 5 (.two 1 (.two 3 (.two 5 (.take 6 7 (.take 7 10 (.take 8 11 (.one 9 (.one 10 (.one 11 (.done))))))) 9 (.one 5 (.take 6 7 (.take 7 10 (.take 8 11 (.one 10 (.one 11 (.done)))))))) 9 (.one 3 (.one 5 (.take 6 7 (.take 7 10 (.take 8 11 (.one 10 (.one 11 (.done))))))))) 9 (.one 1 (.one 3 (.one 5 (.take 6 7 (.take 7 10 (.take 8 11 (.one 10 (.one 11 (.done)))))))))))) else .done
theorem e_window_cleared {args : List Value} {w : World} {R : Value → World → Prop} (hl : Nat.ble args.length 88 = true) (h : den Try.prog tt 88 sc_window_cleared c_window_cleared (fnK tt [(.tmp 4)] R) (env0 args) w) : CallK Try.prog F_window_cleared args R w :=
  callK_of_den tt_ok hmix (by kernel_rfl) Try.func75 rfl rfl rfl hl (by kernel_rfl) h
/-! pantile/tree.Of -/
abbrev F_tree_Of : Nat := 76
noncomputable def c_tree_Of : Code := Try.f76.body.getD .skip
theorem e_tree_Of {args : List Value} {w : World} {R : Value → World → Prop} (hl : Nat.ble args.length 26 = true) (h : den Try.prog tt 26 sc0 c_tree_Of (fnK tt [(.tmp 4), (.tmp 5)] R) (env0 args) w) : CallK Try.prog F_tree_Of args R w :=
  callK_of_den tt_ok hmix (by kernel_rfl) Try.func76 rfl rfl rfl hl (by kernel_rfl) h
/-! (*pantile/tree.Tree).K -/
abbrev F_tree_Tree_K : Nat := 77
noncomputable def c_tree_Tree_K : Code := Try.f77.body.getD .skip
theorem e_tree_Tree_K {args : List Value} {w : World} {R : Value → World → Prop} (hl : Nat.ble args.length 9 = true) (h : den Try.prog tt 9 sc0 c_tree_Tree_K (fnK tt [(.tmp 2)] R) (env0 args) w) : CallK Try.prog F_tree_Tree_K args R w :=
  callK_of_den tt_ok hmix (by kernel_rfl) Try.func77 rfl rfl rfl hl (by kernel_rfl) h
/-! pantile/window.kept -/
abbrev F_window_kept : Nat := 78
noncomputable def c_window_kept : Code := Try.f78.body.getD .skip
def sc_window_kept : Nat → Sc := fun i => bif Nat.beq i 1 then .take 0 1 (.take 2 3 (.take 4 5 (.one 1 (.one 3 (.one 5 (.take 6 7 (.take 7 9 (.take 8 10 (.take 9 10 (.one 10 (.done))))))))))) else bif Nat.beq i 6 then .take 0 1 (.take 2 3 (.take 4 5 (.two 1 (.two 3 (.two 5 (.take 6 7 (.take 7 10 (.take 8 11 (.one 9 (.one 10 (.one 11 (.done))))))) 9 (.one 5 (.take 6 7 (.take 7 10 (.take 8 11 (.one 10 (.one 11 (.done)))))))) 9 (.one 3 (.one 5 (.take 6 7 (.take 7 10 (.take 8 11 (.one 10 (.one 11 (.done))))))))) 9 (.one 1 (.one 3 (.one 5 (.take 6 7 (.take 7 10 (.take 8 11 (.one 10 (.one 11 (.done)))))))))))) else bif Nat.beq i 12 then .take 0 2 (.take 1 2 (.take 3 4 (.one 2 (.one 4 (.one 5 (.done)))))) else .done
theorem e_window_kept {args : List Value} {w : World} {R : Value → World → Prop} (hl : Nat.ble args.length 80 = true) (h : den Try.prog tt 80 sc_window_kept c_window_kept (fnK tt [(.tmp 4)] R) (env0 args) w) : CallK Try.prog F_window_kept args R w :=
  callK_of_den tt_ok hmix (by kernel_rfl) Try.func78 rfl rfl rfl hl (by kernel_rfl) h
/-! (*pantile/tree.Tree).check -/
abbrev F_tree_Tree_check : Nat := 79
noncomputable def c_tree_Tree_check : Code := Try.f79.body.getD .skip
theorem e_tree_Tree_check {args : List Value} {w : World} {R : Value → World → Prop} (hl : Nat.ble args.length 16 = true) (h : den Try.prog tt 16 sc0 c_tree_Tree_check (fnK tt [(.tmp 4)] R) (env0 args) w) : CallK Try.prog F_tree_Tree_check args R w :=
  callK_of_den tt_ok hmix (by kernel_rfl) Try.func79 rfl rfl rfl hl (by kernel_rfl) h
/-! (*pantile/tree.Tree).path -/
abbrev F_tree_Tree_path : Nat := 80
noncomputable def c_tree_Tree_path : Code := Try.f80.body.getD .skip
theorem e_tree_Tree_path {args : List Value} {w : World} {R : Value → World → Prop} (hl : Nat.ble args.length 29 = true) (h : den Try.prog tt 29 sc0 c_tree_Tree_path (fnK tt [(.tmp 4), (.tmp 5)] R) (env0 args) w) : CallK Try.prog F_tree_Tree_path args R w :=
  callK_of_den tt_ok hmix (by kernel_rfl) Try.func80 rfl rfl rfl hl (by kernel_rfl) h
/-! pantile/tree.found -/
abbrev F_tree_found : Nat := 81
noncomputable def c_tree_found : Code := Try.f81.body.getD .skip
theorem e_tree_found {args : List Value} {w : World} {R : Value → World → Prop} (hl : Nat.ble args.length 17 = true) (h : den Try.prog tt 17 sc0 c_tree_found (fnK tt [(.cell 2 37), (.tmp 3)] R) (env0 args) w) : CallK Try.prog F_tree_found args R w :=
  callK_of_den tt_ok hmix (by kernel_rfl) Try.func81 rfl rfl rfl hl (by kernel_rfl) h
/-! pantile/node.Leaf -/
abbrev F_node_Leaf : Nat := 82
noncomputable def c_node_Leaf : Code := Try.f82.body.getD .skip
theorem e_node_Leaf {args : List Value} {w : World} {R : Value → World → Prop} (hl : Nat.ble args.length 18 = true) (h : den Try.prog tt 18 sc0 c_node_Leaf (fnK tt [(.tmp 4), (.tmp 5)] R) (env0 args) w) : CallK Try.prog F_node_Leaf args R w :=
  callK_of_den tt_ok hmix (by kernel_rfl) Try.func82 rfl rfl rfl hl (by kernel_rfl) h
/-! pantile/node.Pair -/
abbrev F_node_Pair : Nat := 83
noncomputable def c_node_Pair : Code := Try.f83.body.getD .skip
def sc_node_Pair : Nat → Sc := fun i => bif Nat.beq i 3 then .take 0 1 (.take 1 2 (.take 2 3 (.take 3 8 (.take 4 5 (.take 5 6 (.take 6 7 (.take 7 8 (.one 8 (.take 9 10 (.take 10 12 (.take 11 13 (.take 12 13 (.one 13 (.done)))))))))))))) else bif Nat.beq i 6 then .take 0 10 (.take 1 2 (.take 2 3 (.take 3 4 (.take 4 9 (.take 5 6 (.take 6 7 (.take 7 8 (.take 8 9 (.take 9 10 (.one 10 (.done))))))))))) else .done
theorem e_node_Pair {args : List Value} {w : World} {R : Value → World → Prop} (hl : Nat.ble args.length 86 = true) (h : den Try.prog tt 86 sc_node_Pair c_node_Pair (fnK tt [(.tmp 4), (.tmp 5)] R) (env0 args) w) : CallK Try.prog F_node_Pair args R w :=
  callK_of_den tt_ok hmix (by kernel_rfl) Try.func83 rfl rfl rfl hl (by kernel_rfl) h
/-! (*pantile/tree.Tree).up -/
abbrev F_tree_Tree_up : Nat := 84
noncomputable def c_tree_Tree_up : Code := Try.f84.body.getD .skip
theorem e_tree_Tree_up {args : List Value} {w : World} {R : Value → World → Prop} (hl : Nat.ble args.length 31 = true) (h : den Try.prog tt 31 sc0 c_tree_Tree_up (fnK tt [(.tmp 6)] R) (env0 args) w) : CallK Try.prog F_tree_Tree_up args R w :=
  callK_of_den tt_ok hmix (by kernel_rfl) Try.func84 rfl rfl rfl hl (by kernel_rfl) h
/-! (*pantile/tree.Tree).Del -/
abbrev F_tree_Tree_Del : Nat := 85
noncomputable def c_tree_Tree_Del : Code := Try.f85.body.getD .skip
theorem e_tree_Tree_Del {args : List Value} {w : World} {R : Value → World → Prop} (hl : Nat.ble args.length 72 = true) (h : den Try.prog tt 72 sc0 c_tree_Tree_Del (fnK tt [(.tmp 4), (.tmp 5)] R) (env0 args) w) : CallK Try.prog F_tree_Tree_Del args R w :=
  callK_of_den tt_ok hmix (by kernel_rfl) Try.func85 rfl rfl rfl hl (by kernel_rfl) h
/-! (*pantile/walk.Cursor).stand -/
abbrev F_walk_Cursor_stand : Nat := 86
noncomputable def c_walk_Cursor_stand : Code := Try.f86.body.getD .skip
theorem e_walk_Cursor_stand {args : List Value} {w : World} {R : Value → World → Prop} (hl : Nat.ble args.length 16 = true) (h : den Try.prog tt 16 sc0 c_walk_Cursor_stand (fnK tt [] R) (env0 args) w) : CallK Try.prog F_walk_Cursor_stand args R w :=
  callK_of_den tt_ok hmix (by kernel_rfl) Try.func86 rfl rfl rfl hl (by kernel_rfl) h
/-! pantile/walk.First -/
abbrev F_walk_First : Nat := 87
noncomputable def c_walk_First : Code := Try.f87.body.getD .skip
theorem e_walk_First {args : List Value} {w : World} {R : Value → World → Prop} (hl : Nat.ble args.length 23 = true) (h : den Try.prog tt 23 sc0 c_walk_First (fnK tt [(.cell 2 37), (.tmp 3)] R) (env0 args) w) : CallK Try.prog F_walk_First args R w :=
  callK_of_den tt_ok hmix (by kernel_rfl) Try.func87 rfl rfl rfl hl (by kernel_rfl) h
/-! pantile/walk.From -/
abbrev F_walk_From : Nat := 88
noncomputable def c_walk_From : Code := Try.f88.body.getD .skip
theorem e_walk_From {args : List Value} {w : World} {R : Value → World → Prop} (hl : Nat.ble args.length 71 = true) (h : den Try.prog tt 71 sc0 c_walk_From (fnK tt [(.cell 4 37), (.tmp 5)] R) (env0 args) w) : CallK Try.prog F_walk_From args R w :=
  callK_of_den tt_ok hmix (by kernel_rfl) Try.func88 rfl rfl rfl hl (by kernel_rfl) h
/-! (*pantile/node.Node).Entry -/
abbrev F_node_Node_Entry : Nat := 89
noncomputable def c_node_Node_Entry : Code := Try.f89.body.getD .skip
def sc_node_Node_Entry : Nat → Sc := fun i => bif Nat.beq i 3 then .take 0 1 (.take 1 2 (.take 2 3 (.take 3 4 (.take 5 6 (.take 6 7 (.take 7 8 (.take 8 9 (.one 4 (.take 9 10 (.fin 10 (.one 11 (.done)))))))))))) else .done
theorem e_node_Node_Entry {args : List Value} {w : World} {R : Value → World → Prop} (hl : Nat.ble args.length 24 = true) (h : den Try.prog tt 24 sc_node_Node_Entry c_node_Node_Entry (fnK tt [(.cell 2 37), (.tmp 3)] R) (env0 args) w) : CallK Try.prog F_node_Node_Entry args R w :=
  callK_of_den tt_ok hmix (by kernel_rfl) Try.func89 rfl rfl rfl hl (by kernel_rfl) h
/-! pantile/walk.behind -/
abbrev F_walk_behind : Nat := 90
noncomputable def c_walk_behind : Code := Try.f90.body.getD .skip
def sc_walk_behind : Nat → Sc := fun i => bif Nat.beq i 10 then .take 0 2 (.take 1 2 (.take 2 3 (.take 3 4 (.take 4 11 (.take 5 7 (.take 6 7 (.take 7 8 (.take 8 9 (.take 9 10 (.take 10 11 (.one 11 (.take 12 13 (.take 13 15 (.take 14 16 (.take 15 16 (.one 16 (.done))))))))))))))))) else .done
theorem e_walk_behind {args : List Value} {w : World} {R : Value → World → Prop} (hl : Nat.ble args.length 66 = true) (h : den Try.prog tt 66 sc_walk_behind c_walk_behind (fnK tt [(.cell 4 37), (.tmp 5)] R) (env0 args) w) : CallK Try.prog F_walk_behind args R w :=
  callK_of_den tt_ok hmix (by kernel_rfl) Try.func90 rfl rfl rfl hl (by kernel_rfl) h
/-! pantile/zbits.Part -/
abbrev F_zbits_Part : Nat := 91
noncomputable def c_zbits_Part : Code := Try.f91.body.getD .skip
theorem e_zbits_Part {args : List Value} {w : World} {R : Value → World → Prop} (hl : Nat.ble args.length 38 = true) (h : den Try.prog tt 38 sc0 c_zbits_Part (fnK tt [(.tmp 4), (.tmp 5)] R) (env0 args) w) : CallK Try.prog F_zbits_Part args R w :=
  callK_of_den tt_ok hmix (by kernel_rfl) Try.func91 rfl rfl rfl hl (by kernel_rfl) h
/-! pantile/zbits.Cmp -/
abbrev F_zbits_Cmp : Nat := 92
noncomputable def c_zbits_Cmp : Code := Try.f92.body.getD .skip
theorem e_zbits_Cmp {args : List Value} {w : World} {R : Value → World → Prop} (hl : Nat.ble args.length 46 = true) (h : den Try.prog tt 46 sc0 c_zbits_Cmp (fnK tt [(.tmp 4), (.tmp 5)] R) (env0 args) w) : CallK Try.prog F_zbits_Cmp args R w :=
  callK_of_den tt_ok hmix (by kernel_rfl) Try.func92 rfl rfl rfl hl (by kernel_rfl) h
/-! (*pantile/node.Node).Prefix -/
abbrev F_node_Node_Prefix : Nat := 93
noncomputable def c_node_Node_Prefix : Code := Try.f93.body.getD .skip
theorem e_node_Node_Prefix {args : List Value} {w : World} {R : Value → World → Prop} (hl : Nat.ble args.length 10 = true) (h : den Try.prog tt 10 sc0 c_node_Node_Prefix (fnK tt [(.tmp 2)] R) (env0 args) w) : CallK Try.prog F_node_Node_Prefix args R w :=
  callK_of_den tt_ok hmix (by kernel_rfl) Try.func93 rfl rfl rfl hl (by kernel_rfl) h
/-! pantile/zbits.Right -/
abbrev F_zbits_Right : Nat := 94
noncomputable def c_zbits_Right : Code := Try.f94.body.getD .skip
theorem e_zbits_Right {args : List Value} {w : World} {R : Value → World → Prop} (hl : Nat.ble args.length 11 = true) (h : den Try.prog tt 11 sc0 c_zbits_Right (fnK tt [(.tmp 2)] R) (env0 args) w) : CallK Try.prog F_zbits_Right args R w :=
  callK_of_den tt_ok hmix (by kernel_rfl) Try.func94 rfl rfl rfl hl (by kernel_rfl) h
/-! pantile/zbits.level -/
abbrev F_zbits_level : Nat := 95
noncomputable def c_zbits_level : Code := Try.f95.body.getD .skip
theorem e_zbits_level {args : List Value} {w : World} {R : Value → World → Prop} (hl : Nat.ble args.length 9 = true) (h : den Try.prog tt 9 sc0 c_zbits_level (fnK tt [(.tmp 2)] R) (env0 args) w) : CallK Try.prog F_zbits_level args R w :=
  callK_of_den tt_ok hmix (by kernel_rfl) Try.func95 rfl rfl rfl hl (by kernel_rfl) h
/-! (*pantile/node.Node).slots -/
abbrev F_node_Node_slots : Nat := 96
noncomputable def c_node_Node_slots : Code := Try.f96.body.getD .skip
theorem e_node_Node_slots {args : List Value} {w : World} {R : Value → World → Prop} (hl : Nat.ble args.length 9 = true) (h : den Try.prog tt 9 sc0 c_node_Node_slots (fnK tt [(.tmp 2)] R) (env0 args) w) : CallK Try.prog F_node_Node_slots args R w :=
  callK_of_den tt_ok hmix (by kernel_rfl) Try.func96 rfl rfl rfl hl (by kernel_rfl) h
/-! (*pantile/slots.Slots[*pantile/node.Node]).From -/
abbrev F_slots_Slots_node_Node_From : Nat := 97
noncomputable def c_slots_Slots_node_Node_From : Code := Try.f97.body.getD .skip
def sc_slots_Slots_node_Node_From : Nat → Sc := fun i => bif Nat.beq i 9 then .take 0 1 (.take 1 4 (.take 2 3 (.take 3 5 (.take 4 5 (.take 5 6 (.one 6 (.done))))))) else .done
theorem e_slots_Slots_node_Node_From {args : List Value} {w : World} {R : Value → World → Prop} (hl : Nat.ble args.length 43 = true) (h : den Try.prog tt 43 sc_slots_Slots_node_Node_From c_slots_Slots_node_Node_From (fnK tt [(.tmp 4), (.tmp 5), (.tmp 6)] R) (env0 args) w) : CallK Try.prog F_slots_Slots_node_Node_From args R w :=
  callK_of_den tt_ok hmix (by kernel_rfl) Try.func97 rfl rfl rfl hl (by kernel_rfl) h
/-! (*pantile/slots.Slots[*pantile/node.Node]).Get -/
abbrev F_slots_Slots_node_Node_Get : Nat := 98
noncomputable def c_slots_Slots_node_Node_Get : Code := Try.f98.body.getD .skip
theorem e_slots_Slots_node_Node_Get {args : List Value} {w : World} {R : Value → World → Prop} (hl : Nat.ble args.length 29 = true) (h : den Try.prog tt 29 sc0 c_slots_Slots_node_Node_Get (fnK tt [(.tmp 4), (.tmp 5)] R) (env0 args) w) : CallK Try.prog F_slots_Slots_node_Node_Get args R w :=
  callK_of_den tt_ok hmix (by kernel_rfl) Try.func98 rfl rfl rfl hl (by kernel_rfl) h
/-! (pantile/sets.joiner).trees -/
abbrev F_sets_joiner_trees : Nat := 99
noncomputable def c_sets_joiner_trees : Code := Try.f99.body.getD .skip
def sc_sets_joiner_trees : Nat → Sc := fun i => bif Nat.beq i 4 then .take 0 1 (.take 2 7 (.take 3 4 (.take 5 6 (.one 1 (.one 4 (.one 6 (.one 7 (.one 8 (.take 9 11 (.take 10 11 (.take 11 12 (.one 12 (.done))))))))))))) else .done
theorem e_sets_joiner_trees {args : List Value} {w : World} {R : Value → World → Prop} (hl : Nat.ble args.length 28 = true) (h : den Try.prog tt 28 sc_sets_joiner_trees c_sets_joiner_trees (fnK tt [(.tmp 6), (.tmp 7)] R) (env0 args) w) : CallK Try.prog F_sets_joiner_trees args R w :=
  callK_of_den tt_ok hmix (by kernel_rfl) Try.func99 rfl rfl rfl hl (by kernel_rfl) h
/-! pantile/walk.each -/
abbrev F_walk_each : Nat := 100
noncomputable def c_walk_each : Code := Try.f100.body.getD .skip
theorem e_walk_each {args : List Value} {w : World} {R : Value → World → Prop} (hl : Nat.ble args.length 38 = true) (h : den Try.prog tt 38 sc0 c_walk_each (fnK tt [(.tmp 4)] R) (env0 args) w) : CallK Try.prog F_walk_each args R w :=
  callK_of_den tt_ok hmix (by kernel_rfl) Try.func100 rfl rfl rfl hl (by kernel_rfl) h
/-! pantile/walk.All$1 -/
abbrev F_walk_All_1 : Nat := 101
noncomputable def c_walk_All_1 : Code := Try.f101.body.getD .skip
theorem e_walk_All_1 {args : List Value} {w : World} {R : Value → World → Prop} (hl : Nat.ble args.length 8 = true) (h : den Try.prog tt 8 sc0 c_walk_All_1 (fnK tt [(.tmp 3)] R) (env0 args) w) : CallK Try.prog F_walk_All_1 args R w :=
  callK_of_den tt_ok hmix (by kernel_rfl) Try.func101 rfl rfl rfl hl (by kernel_rfl) h
/-! slices.Clone[[]uint64,uint64] -/
abbrev F_slices_Clone_sl_uint64_uint64 : Nat := 102
noncomputable def c_slices_Clone_sl_uint64_uint64 : Code := Try.f102.body.getD .skip
theorem e_slices_Clone_sl_uint64_uint64 {args : List Value} {w : World} {R : Value → World → Prop} (hl : Nat.ble args.length 8 = true) (h : den Try.prog tt 8 sc0 c_slices_Clone_sl_uint64_uint64 (fnK tt [(.tmp 2)] R) (env0 args) w) : CallK Try.prog F_slices_Clone_sl_uint64_uint64 args R w :=
  callK_of_den tt_ok hmix (by kernel_rfl) Try.func102 rfl rfl rfl hl (by kernel_rfl) h
/-! (*pantile/near.finder).add -/
abbrev F_near_finder_add : Nat := 103
noncomputable def c_near_finder_add : Code := Try.f103.body.getD .skip
def sc_near_finder_add : Nat → Sc := fun i => bif Nat.beq i 2 then .take 0 5 (.take 1 2 (.take 2 3 (.take 3 4 (.take 4 5 (.one 5 (.take 6 7 (.take 7 9 (.take 8 10 (.take 9 10 (.one 10 (.done))))))))))) else .done
theorem e_near_finder_add {args : List Value} {w : World} {R : Value → World → Prop} (hl : Nat.ble args.length 37 = true) (h : den Try.prog tt 37 sc_near_finder_add c_near_finder_add (fnK tt [] R) (env0 args) w) : CallK Try.prog F_near_finder_add args R w :=
  callK_of_den tt_ok hmix (by kernel_rfl) Try.func103 rfl rfl rfl hl (by kernel_rfl) h
/-! (pantile/near.pile).Len -/
abbrev F_near_pile_Len : Nat := 104
noncomputable def c_near_pile_Len : Code := Try.f104.body.getD .skip
theorem e_near_pile_Len {args : List Value} {w : World} {R : Value → World → Prop} (hl : Nat.ble args.length 5 = true) (h : den Try.prog tt 5 sc0 c_near_pile_Len (fnK tt [(.tmp 2)] R) (env0 args) w) : CallK Try.prog F_near_pile_Len args R w :=
  callK_of_den tt_ok hmix (by kernel_rfl) Try.func104 rfl rfl rfl hl (by kernel_rfl) h
/-! container/heap.Pop -/
abbrev F_container_heap_Pop : Nat := 105
noncomputable def c_container_heap_Pop : Code := Try.f105.body.getD .skip
theorem e_container_heap_Pop {args : List Value} {w : World} {R : Value → World → Prop} (hl : Nat.ble args.length 15 = true) (h : den Try.prog tt 15 sc0 c_container_heap_Pop (fnK tt [(.tmp 2)] R) (env0 args) w) : CallK Try.prog F_container_heap_Pop args R w :=
  callK_of_den tt_ok hmix (by kernel_rfl) Try.func105 rfl rfl rfl hl (by kernel_rfl) h
/-! pantile/pantileref01.Part -/
abbrev F_ref01_Part : Nat := 106
noncomputable def c_ref01_Part : Code := Try.f106.body.getD .skip
theorem e_ref01_Part {args : List Value} {w : World} {R : Value → World → Prop} (hl : Nat.ble args.length 18 = true) (h : den Try.prog tt 18 sc0 c_ref01_Part (fnK tt [(.tmp 4)] R) (env0 args) w) : CallK Try.prog F_ref01_Part args R w :=
  callK_of_den tt_ok hmix (by kernel_rfl) Try.func106 rfl rfl rfl hl (by kernel_rfl) h
/-! pantile/pantileref01.Addr -/
abbrev F_ref01_Addr : Nat := 107
noncomputable def c_ref01_Addr : Code := Try.f107.body.getD .skip
theorem e_ref01_Addr {args : List Value} {w : World} {R : Value → World → Prop} (hl : Nat.ble args.length 23 = true) (h : den Try.prog tt 23 sc0 c_ref01_Addr (fnK tt [(.tmp 4)] R) (env0 args) w) : CallK Try.prog F_ref01_Addr args R w :=
  callK_of_den tt_ok hmix (by kernel_rfl) Try.func107 rfl rfl rfl hl (by kernel_rfl) h
/-! pantile/pantileref01.Right -/
abbrev F_ref01_Right : Nat := 108
noncomputable def c_ref01_Right : Code := Try.f108.body.getD .skip
theorem e_ref01_Right {args : List Value} {w : World} {R : Value → World → Prop} (hl : Nat.ble args.length 11 = true) (h : den Try.prog tt 11 sc0 c_ref01_Right (fnK tt [(.tmp 2)] R) (env0 args) w) : CallK Try.prog F_ref01_Right args R w :=
  callK_of_den tt_ok hmix (by kernel_rfl) Try.func108 rfl rfl rfl hl (by kernel_rfl) h
/-! pantile/box.Right -/
abbrev F_box_Right : Nat := 109
noncomputable def c_box_Right : Code := Try.f109.body.getD .skip
theorem e_box_Right {args : List Value} {w : World} {R : Value → World → Prop} (hl : Nat.ble args.length 15 = true) (h : den Try.prog tt 15 sc0 c_box_Right (fnK tt [(.tmp 2)] R) (env0 args) w) : CallK Try.prog F_box_Right args R w :=
  callK_of_den tt_ok hmix (by kernel_rfl) Try.func109 rfl rfl rfl hl (by kernel_rfl) h
/-! pantile/mask.Whole -/
abbrev F_mask_Whole : Nat := 110
noncomputable def c_mask_Whole : Code := Try.f110.body.getD .skip
theorem e_mask_Whole {args : List Value} {w : World} {R : Value → World → Prop} (hl : Nat.ble args.length 51 = true) (h : den Try.prog tt 51 sc0 c_mask_Whole (fnK tt [(.tmp 6), (.tmp 7)] R) (env0 args) w) : CallK Try.prog F_mask_Whole args R w :=
  callK_of_den tt_ok hmix (by kernel_rfl) Try.func110 rfl rfl rfl hl (by kernel_rfl) h
/-! pantile/mask.Of -/
abbrev F_mask_Of : Nat := 111
noncomputable def c_mask_Of : Code := Try.f111.body.getD .skip
def sc_mask_Of : Nat → Sc := fun i => bif Nat.beq i 10 then .take 0 11 (.take 1 2 (.take 2 4 (.take 3 4 (.take 4 5 (.take 5 11 (.take 6 7 (.take 7 9 (.take 8 9 (.take 9 10 (.take 10 11 (.one 11 (.one 12 (.done))))))))))))) else bif Nat.beq i 12 then .take 0 11 (.take 1 2 (.take 2 4 (.take 3 4 (.take 4 5 (.take 5 11 (.take 6 7 (.take 7 9 (.take 8 9 (.take 9 10 (.take 10 11 (.one 11 (.done)))))))))))) else .done
theorem e_mask_Of {args : List Value} {w : World} {R : Value → World → Prop} (hl : Nat.ble args.length 81 = true) (h : den Try.prog tt 81 sc_mask_Of c_mask_Of (fnK tt [(.cell 6 165), (.tmp 7)] R) (env0 args) w) : CallK Try.prog F_mask_Of args R w :=
  callK_of_den tt_ok hmix (by kernel_rfl) Try.func111 rfl rfl rfl hl (by kernel_rfl) h
/-! (pantile/mask.Mask).First -/
abbrev F_mask_Mask_First : Nat := 112
noncomputable def c_mask_Mask_First : Code := Try.f112.body.getD .skip
theorem e_mask_Mask_First {args : List Value} {w : World} {R : Value → World → Prop} (hl : Nat.ble args.length 8 = true) (h : den Try.prog tt 8 sc0 c_mask_Mask_First (fnK tt [(.tmp 2), (.tmp 3)] R) (env0 args) w) : CallK Try.prog F_mask_Mask_First args R w :=
  callK_of_den tt_ok hmix (by kernel_rfl) Try.func112 rfl rfl rfl hl (by kernel_rfl) h
/-! (pantile/mask.Mask).Has -/
abbrev F_mask_Mask_Has : Nat := 113
noncomputable def c_mask_Mask_Has : Code := Try.f113.body.getD .skip
theorem e_mask_Mask_Has {args : List Value} {w : World} {R : Value → World → Prop} (hl : Nat.ble args.length 31 = true) (h : den Try.prog tt 31 sc0 c_mask_Mask_Has (fnK tt [(.tmp 4)] R) (env0 args) w) : CallK Try.prog F_mask_Mask_Has args R w :=
  callK_of_den tt_ok hmix (by kernel_rfl) Try.func113 rfl rfl rfl hl (by kernel_rfl) h
/-! (pantile/mask.Mask).Next -/
abbrev F_mask_Mask_Next : Nat := 114
noncomputable def c_mask_Mask_Next : Code := Try.f114.body.getD .skip
theorem e_mask_Mask_Next {args : List Value} {w : World} {R : Value → World → Prop} (hl : Nat.ble args.length 44 = true) (h : den Try.prog tt 44 sc0 c_mask_Mask_Next (fnK tt [(.tmp 4), (.tmp 5)] R) (env0 args) w) : CallK Try.prog F_mask_Mask_Next args R w :=
  callK_of_den tt_ok hmix (by kernel_rfl) Try.func114 rfl rfl rfl hl (by kernel_rfl) h
/-! (*pantile/node.Node).Shape -/
abbrev F_node_Node_Shape : Nat := 115
noncomputable def c_node_Node_Shape : Code := Try.f115.body.getD .skip
def sc_node_Node_Shape : Nat → Sc := fun i => bif Nat.beq i 3 then .take 0 1 (.take 1 2 (.take 2 3 (.take 3 23 (.take 4 5 (.take 5 6 (.take 6 7 (.take 7 8 (.take 9 10 (.take 10 11 (.take 11 12 (.take 12 13 (.take 14 15 (.take 15 16 (.take 16 17 (.take 17 18 (.take 19 20 (.take 20 21 (.take 21 22 (.take 22 23 (.one 8 (.one 13 (.one 18 (.take 23 24 (.one 24 (.done))))))))))))))))))))))))) else .done
theorem e_node_Node_Shape {args : List Value} {w : World} {R : Value → World → Prop} (hl : Nat.ble args.length 30 = true) (h : den Try.prog tt 30 sc_node_Node_Shape c_node_Node_Shape (fnK tt [(.cell 2 172)] R) (env0 args) w) : CallK Try.prog F_node_Node_Shape args R w :=
  callK_of_den tt_ok hmix (by kernel_rfl) Try.func115 rfl rfl rfl hl (by kernel_rfl) h
/-! pantile/window.put -/
abbrev F_window_put : Nat := 116
noncomputable def c_window_put : Code := Try.f116.body.getD .skip
theorem e_window_put {args : List Value} {w : World} {R : Value → World → Prop} (hl : Nat.ble args.length 21 = true) (h : den Try.prog tt 21 sc0 c_window_put (fnK tt [(.tmp 6)] R) (env0 args) w) : CallK Try.prog F_window_put args R w :=
  callK_of_den tt_ok hmix (by kernel_rfl) Try.func116 rfl rfl rfl hl (by kernel_rfl) h
/-! (*pantile/node.Node).Without -/
abbrev F_node_Node_Without : Nat := 117
noncomputable def c_node_Node_Without : Code := Try.f117.body.getD .skip
def sc_node_Node_Without : Nat → Sc := fun i => bif Nat.beq i 10 then .take 0 1 (.take 1 2 (.take 2 3 (.take 3 9 (.take 4 5 (.take 5 6 (.take 6 7 (.take 7 9 (.take 8 9 (.one 9 (.take 10 11 (.one 11 (.done)))))))))))) else .done
theorem e_node_Node_Without {args : List Value} {w : World} {R : Value → World → Prop} (hl : Nat.ble args.length 46 = true) (h : den Try.prog tt 46 sc_node_Node_Without c_node_Node_Without (fnK tt [(.tmp 4), (.tmp 5)] R) (env0 args) w) : CallK Try.prog F_node_Node_Without args R w :=
  callK_of_den tt_ok hmix (by kernel_rfl) Try.func117 rfl rfl rfl hl (by kernel_rfl) h
/-! (*pantile/node.Node).K -/
abbrev F_node_Node_K : Nat := 118
noncomputable def c_node_Node_K : Code := Try.f118.body.getD .skip
theorem e_node_Node_K {args : List Value} {w : World} {R : Value → World → Prop} (hl : Nat.ble args.length 10 = true) (h : den Try.prog tt 10 sc0 c_node_Node_K (fnK tt [(.tmp 2)] R) (env0 args) w) : CallK Try.prog F_node_Node_K args R w :=
  callK_of_den tt_ok hmix (by kernel_rfl) Try.func118 rfl rfl rfl hl (by kernel_rfl) h
/-! (*pantile/node.Node).With -/
abbrev F_node_Node_With : Nat := 119
noncomputable def c_node_Node_With : Code := Try.f119.body.getD .skip
def sc_node_Node_With : Nat → Sc := fun i => bif Nat.beq i 5 then .take 0 1 (.take 1 2 (.take 2 3 (.take 3 4 (.take 4 10 (.take 5 6 (.take 6 7 (.take 7 8 (.take 8 9 (.take 9 10 (.take 10 11 (.one 11 (.done)))))))))))) else bif Nat.beq i 7 then .take 0 5 (.take 1 2 (.take 2 3 (.take 3 4 (.take 4 5 (.one 5 (.take 6 7 (.take 7 8 (.take 8 9 (.take 9 10 (.take 10 11 (.take 11 16 (.take 12 13 (.take 13 14 (.take 14 15 (.take 15 16 (.take 16 17 (.take 17 18 (.one 18 (.done))))))))))))))))))) else bif Nat.beq i 9 then .take 0 1 (.take 1 2 (.take 2 3 (.take 3 11 (.take 4 9 (.take 5 6 (.take 6 7 (.take 7 8 (.take 8 9 (.take 10 11 (.one 9 (.one 11 (.take 12 13 (.take 13 15 (.take 14 16 (.take 15 16 (.one 16 (.done))))))))))))))))) else bif Nat.beq i 10 then .take 0 1 (.take 1 2 (.take 2 3 (.take 3 9 (.take 4 5 (.take 5 6 (.take 6 7 (.take 7 9 (.take 8 9 (.one 9 (.take 10 11 (.one 11 (.done)))))))))))) else .done
theorem e_node_Node_With {args : List Value} {w : World} {R : Value → World → Prop} (hl : Nat.ble args.length 77 = true) (h : den Try.prog tt 77 sc_node_Node_With c_node_Node_With (fnK tt [(.tmp 4), (.tmp 5)] R) (env0 args) w) : CallK Try.prog F_node_Node_With args R w :=
  callK_of_den tt_ok hmix (by kernel_rfl) Try.func119 rfl rfl rfl hl (by kernel_rfl) h
/-! pantile/tree.down -/
abbrev F_tree_down : Nat := 120
noncomputable def c_tree_down : Code := Try.f120.body.getD .skip
theorem e_tree_down {args : List Value} {w : World} {R : Value → World → Prop} (hl : Nat.ble args.length 17 = true) (h : den Try.prog tt 17 sc0 c_tree_down (fnK tt [(.tmp 4)] R) (env0 args) w) : CallK Try.prog F_tree_down args R w :=
  callK_of_den tt_ok hmix (by kernel_rfl) Try.func120 rfl rfl rfl hl (by kernel_rfl) h
/-! pantile/slots.New[*pantile/node.Node] -/
abbrev F_slots_New_node_Node : Nat := 121
noncomputable def c_slots_New_node_Node : Code := Try.f121.body.getD .skip
theorem e_slots_New_node_Node {args : List Value} {w : World} {R : Value → World → Prop} (hl : Nat.ble args.length 13 = true) (h : den Try.prog tt 13 sc0 c_slots_New_node_Node (fnK tt [(.tmp 2), (.tmp 3)] R) (env0 args) w) : CallK Try.prog F_slots_New_node_Node args R w :=
  callK_of_den tt_ok hmix (by kernel_rfl) Try.func121 rfl rfl rfl hl (by kernel_rfl) h
/-! (*pantile/slots.Slots[*pantile/node.Node]).Put -/
abbrev F_slots_Slots_node_Node_Put : Nat := 122
noncomputable def c_slots_Slots_node_Node_Put : Code := Try.f122.body.getD .skip
theorem e_slots_Slots_node_Node_Put {args : List Value} {w : World} {R : Value → World → Prop} (hl : Nat.ble args.length 45 = true) (h : den Try.prog tt 45 sc0 c_slots_Slots_node_Node_Put (fnK tt [(.tmp 6), (.tmp 7)] R) (env0 args) w) : CallK Try.prog F_slots_Slots_node_Node_Put args R w :=
  callK_of_den tt_ok hmix (by kernel_rfl) Try.func122 rfl rfl rfl hl (by kernel_rfl) h
/-! (*pantile/node.Node).at -/
abbrev F_node_Node_at : Nat := 123
noncomputable def c_node_Node_at : Code := Try.f123.body.getD .skip
theorem e_node_Node_at {args : List Value} {w : World} {R : Value → World → Prop} (hl : Nat.ble args.length 17 = true) (h : den Try.prog tt 17 sc0 c_node_Node_at (fnK tt [(.tmp 4)] R) (env0 args) w) : CallK Try.prog F_node_Node_at args R w :=
  callK_of_den tt_ok hmix (by kernel_rfl) Try.func123 rfl rfl rfl hl (by kernel_rfl) h
/-! pantile/zbits.Cut -/
abbrev F_zbits_Cut : Nat := 124
noncomputable def c_zbits_Cut : Code := Try.f124.body.getD .skip
def sc_zbits_Cut : Nat → Sc := fun i => bif Nat.beq i 9 then .take 0 2 (.take 1 2 (.take 2 3 (.take 3 6 (.take 4 5 (.one 5 (.take 6 7 (.take 7 8 (.one 8 (.done))))))))) else .done
theorem e_zbits_Cut {args : List Value} {w : World} {R : Value → World → Prop} (hl : Nat.ble args.length 37 = true) (h : den Try.prog tt 37 sc_zbits_Cut c_zbits_Cut (fnK tt [(.tmp 4), (.tmp 5)] R) (env0 args) w) : CallK Try.prog F_zbits_Cut args R w :=
  callK_of_den tt_ok hmix (by kernel_rfl) Try.func124 rfl rfl rfl hl (by kernel_rfl) h
/-! pantile/node.made -/
abbrev F_node_made : Nat := 125
noncomputable def c_node_made : Code := Try.f125.body.getD .skip
def sc_node_made : Nat → Sc := fun i => bif Nat.beq i 8 then .take 0 34 (.take 1 2 (.take 2 3 (.take 3 4 (.take 4 5 (.take 5 8 (.take 6 7 (.take 7 8 (.take 8 33 (.take 9 10 (.take 10 11 (.take 11 12 (.take 12 13 (.take 13 16 (.take 14 15 (.take 15 16 (.take 16 33 (.take 17 18 (.take 18 19 (.take 19 20 (.take 20 21 (.take 21 24 (.take 22 23 (.take 23 24 (.take 24 33 (.take 25 26 (.take 26 27 (.take 27 28 (.take 28 29 (.take 29 32 (.take 30 31 (.take 31 32 (.take 32 33 (.take 33 34 (.take 34 35 (.take 35 36 (.one 36 (.done))))))))))))))))))))))))))))))))))))) else .done
theorem e_node_made {args : List Value} {w : World} {R : Value → World → Prop} (hl : Nat.ble args.length 72 = true) (h : den Try.prog tt 72 sc_node_made c_node_made (fnK tt [(.tmp 6)] R) (env0 args) w) : CallK Try.prog F_node_made args R w :=
  callK_of_den tt_ok hmix (by kernel_rfl) Try.func125 rfl rfl rfl hl (by kernel_rfl) h
/-! pantile/walk.side -/
abbrev F_walk_side : Nat := 126
noncomputable def c_walk_side : Code := Try.f126.body.getD .skip
theorem e_walk_side {args : List Value} {w : World} {R : Value → World → Prop} (hl : Nat.ble args.length 18 = true) (h : den Try.prog tt 18 sc0 c_walk_side (fnK tt [(.tmp 4)] R) (env0 args) w) : CallK Try.prog F_walk_side args R w :=
  callK_of_den tt_ok hmix (by kernel_rfl) Try.func126 rfl rfl rfl hl (by kernel_rfl) h
/-! math/bits.Len64 -/
abbrev F_math_bits_Len64 : Nat := 127
noncomputable def c_math_bits_Len64 : Code := Try.f127.body.getD .skip
theorem e_math_bits_Len64 {args : List Value} {w : World} {R : Value → World → Prop} (hl : Nat.ble args.length 25 = true) (h : den Try.prog tt 25 sc0 c_math_bits_Len64 (fnK tt [(.tmp 2)] R) (env0 args) w) : CallK Try.prog F_math_bits_Len64 args R w :=
  callK_of_den tt_ok hmix (by kernel_rfl) Try.func127 rfl rfl rfl hl (by kernel_rfl) h
/-! (*pantile/slots.Slots[*pantile/node.Node]).find -/
abbrev F_slots_Slots_node_Node_find : Nat := 128
noncomputable def c_slots_Slots_node_Node_find : Code := Try.f128.body.getD .skip
def sc_slots_Slots_node_Node_find : Nat → Sc := fun i => bif Nat.beq i 1 then .take 0 1 (.take 1 2 (.take 2 3 (.take 3 4 (.take 4 6 (.take 5 6 (.one 6 (.done))))))) else bif Nat.beq i 8 then .take 0 3 (.take 1 2 (.take 2 4 (.take 3 4 (.one 4 (.done))))) else .done
theorem e_slots_Slots_node_Node_find {args : List Value} {w : World} {R : Value → World → Prop} (hl : Nat.ble args.length 48 = true) (h : den Try.prog tt 48 sc_slots_Slots_node_Node_find c_slots_Slots_node_Node_find (fnK tt [(.tmp 4), (.tmp 5)] R) (env0 args) w) : CallK Try.prog F_slots_Slots_node_Node_find args R w :=
  callK_of_den tt_ok hmix (by kernel_rfl) Try.func128 rfl rfl rfl hl (by kernel_rfl) h
/-! (pantile/sets.joiner).join -/
abbrev F_sets_joiner_join : Nat := 129
noncomputable def c_sets_joiner_join : Code := Try.f129.body.getD .skip
def sc_sets_joiner_join : Nat → Sc := fun i => bif Nat.beq i 12 then .take 0 11 (.take 1 11 (.take 2 3 (.take 3 11 (.take 4 11 (.take 5 10 (.take 6 8 (.take 7 8 (.take 9 10 (.one 8 (.one 10 (.one 11 (.one 12 (.done))))))))))))) else bif Nat.beq i 15 then .take 0 11 (.take 1 11 (.take 2 3 (.take 3 11 (.take 4 11 (.take 5 10 (.take 6 10 (.take 7 9 (.take 8 9 (.one 9 (.one 10 (.one 11 (.one 12 (.done))))))))))))) else bif Nat.beq i 16 then .take 0 3 (.take 1 2 (.take 2 3 (.take 4 7 (.take 5 6 (.take 6 7 (.one 3 (.one 7 (.take 8 9 (.one 9 (.done)))))))))) else .done
theorem e_sets_joiner_join {args : List Value} {w : World} {R : Value → World → Prop} (hl : Nat.ble args.length 152 = true) (h : den Try.prog tt 152 sc_sets_joiner_join c_sets_joiner_join (fnK tt [(.tmp 6)] R) (env0 args) w) : CallK Try.prog F_sets_joiner_join args R w :=
  callK_of_den tt_ok hmix (by kernel_rfl) Try.func129 rfl rfl rfl hl (by kernel_rfl) h
/-! pantile/box.Cell -/
abbrev F_box_Cell : Nat := 130
noncomputable def c_box_Cell : Code := Try.f130.body.getD .skip
theorem e_box_Cell {args : List Value} {w : World} {R : Value → World → Prop} (hl : Nat.ble args.length 27 = true) (h : den Try.prog tt 27 sc0 c_box_Cell (fnK tt [(.cell 4 56), (.tmp 5)] R) (env0 args) w) : CallK Try.prog F_box_Cell args R w :=
  callK_of_den tt_ok hmix (by kernel_rfl) Try.func130 rfl rfl rfl hl (by kernel_rfl) h
/-! pantile/box.FarBox -/
abbrev F_box_FarBox : Nat := 131
noncomputable def c_box_FarBox : Code := Try.f131.body.getD .skip
def sc_box_FarBox : Nat → Sc := fun i => bif Nat.beq i 9 then .take 0 16 (.take 1 15 (.take 2 8 (.take 3 4 (.take 4 6 (.take 5 6 (.take 6 7 (.take 7 8 (.take 8 14 (.take 9 10 (.take 10 12 (.take 11 12 (.take 12 13 (.take 13 14 (.take 14 15 (.one 15 (.take 16 17 (.one 17 (.done)))))))))))))))))) else .done
theorem e_box_FarBox {args : List Value} {w : World} {R : Value → World → Prop} (hl : Nat.ble args.length 41 = true) (h : den Try.prog tt 41 sc_box_FarBox c_box_FarBox (fnK tt [(.tmp 4), (.tmp 5)] R) (env0 args) w) : CallK Try.prog F_box_FarBox args R w :=
  callK_of_den tt_ok hmix (by kernel_rfl) Try.func131 rfl rfl rfl hl (by kernel_rfl) h
/-! container/heap.Push -/
abbrev F_container_heap_Push : Nat := 132
noncomputable def c_container_heap_Push : Code := Try.f132.body.getD .skip
theorem e_container_heap_Push {args : List Value} {w : World} {R : Value → World → Prop} (hl : Nat.ble args.length 12 = true) (h : den Try.prog tt 12 sc0 c_container_heap_Push (fnK tt [] R) (env0 args) w) : CallK Try.prog F_container_heap_Push args R w :=
  callK_of_den tt_ok hmix (by kernel_rfl) Try.func132 rfl rfl rfl hl (by kernel_rfl) h
/-! container/heap.down -/
abbrev F_container_heap_down : Nat := 133
noncomputable def c_container_heap_down : Code := Try.f133.body.getD .skip
theorem e_container_heap_down {args : List Value} {w : World} {R : Value → World → Prop} (hl : Nat.ble args.length 48 = true) (h : den Try.prog tt 48 sc0 c_container_heap_down (fnK tt [(.tmp 6)] R) (env0 args) w) : CallK Try.prog F_container_heap_down args R w :=
  callK_of_den tt_ok hmix (by kernel_rfl) Try.func133 rfl rfl rfl hl (by kernel_rfl) h
/-! pantile/pantileref01.Bit -/
abbrev F_ref01_Bit : Nat := 134
noncomputable def c_ref01_Bit : Code := Try.f134.body.getD .skip
theorem e_ref01_Bit {args : List Value} {w : World} {R : Value → World → Prop} (hl : Nat.ble args.length 10 = true) (h : den Try.prog tt 10 sc0 c_ref01_Bit (fnK tt [(.tmp 4)] R) (env0 args) w) : CallK Try.prog F_ref01_Bit args R w :=
  callK_of_den tt_ok hmix (by kernel_rfl) Try.func134 rfl rfl rfl hl (by kernel_rfl) h
/-! pantile/mask.check -/
abbrev F_mask_check : Nat := 135
noncomputable def c_mask_check : Code := Try.f135.body.getD .skip
theorem e_mask_check {args : List Value} {w : World} {R : Value → World → Prop} (hl : Nat.ble args.length 37 = true) (h : den Try.prog tt 37 sc0 c_mask_check (fnK tt [(.tmp 8)] R) (env0 args) w) : CallK Try.prog F_mask_check args R w :=
  callK_of_den tt_ok hmix (by kernel_rfl) Try.func135 rfl rfl rfl hl (by kernel_rfl) h
/-! pantile/mask.halves -/
abbrev F_mask_halves : Nat := 136
noncomputable def c_mask_halves : Code := Try.f136.body.getD .skip
theorem e_mask_halves {args : List Value} {w : World} {R : Value → World → Prop} (hl : Nat.ble args.length 31 = true) (h : den Try.prog tt 31 sc0 c_mask_halves (fnK tt [(.cell 4 208), (.cell 5 208)] R) (env0 args) w) : CallK Try.prog F_mask_halves args R w :=
  callK_of_den tt_ok hmix (by kernel_rfl) Try.func136 rfl rfl rfl hl (by kernel_rfl) h
/-! pantile/mask.leaves -/
abbrev F_mask_leaves : Nat := 137
noncomputable def c_mask_leaves : Code := Try.f137.body.getD .skip
theorem e_mask_leaves {args : List Value} {w : World} {R : Value → World → Prop} (hl : Nat.ble args.length 22 = true) (h : den Try.prog tt 22 sc0 c_mask_leaves (fnK tt [(.tmp 6)] R) (env0 args) w) : CallK Try.prog F_mask_leaves args R w :=
  callK_of_den tt_ok hmix (by kernel_rfl) Try.func137 rfl rfl rfl hl (by kernel_rfl) h
/-! (pantile/mask.Mask).None -/
abbrev F_mask_Mask_None : Nat := 138
noncomputable def c_mask_Mask_None : Code := Try.f138.body.getD .skip
theorem e_mask_Mask_None {args : List Value} {w : World} {R : Value → World → Prop} (hl : Nat.ble args.length 14 = true) (h : den Try.prog tt 14 sc0 c_mask_Mask_None (fnK tt [(.tmp 2)] R) (env0 args) w) : CallK Try.prog F_mask_Mask_None args R w :=
  callK_of_den tt_ok hmix (by kernel_rfl) Try.func138 rfl rfl rfl hl (by kernel_rfl) h
/-! (pantile/mask.Mask).all -/
abbrev F_mask_Mask_all : Nat := 139
noncomputable def c_mask_Mask_all : Code := Try.f139.body.getD .skip
theorem e_mask_Mask_all {args : List Value} {w : World} {R : Value → World → Prop} (hl : Nat.ble args.length 7 = true) (h : den Try.prog tt 7 sc0 c_mask_Mask_all (fnK tt [(.tmp 2)] R) (env0 args) w) : CallK Try.prog F_mask_Mask_all args R w :=
  callK_of_den tt_ok hmix (by kernel_rfl) Try.func139 rfl rfl rfl hl (by kernel_rfl) h
/-! (pantile/mask.Mask).least -/
abbrev F_mask_Mask_least : Nat := 140
noncomputable def c_mask_Mask_least : Code := Try.f140.body.getD .skip
theorem e_mask_Mask_least {args : List Value} {w : World} {R : Value → World → Prop} (hl : Nat.ble args.length 84 = true) (h : den Try.prog tt 84 sc0 c_mask_Mask_least (fnK tt [(.tmp 4)] R) (env0 args) w) : CallK Try.prog F_mask_Mask_least args R w :=
  callK_of_den tt_ok hmix (by kernel_rfl) Try.func140 rfl rfl rfl hl (by kernel_rfl) h
/-! (*pantile/slots.Slots[*pantile/node.Node]).Places -/
abbrev F_slots_Slots_node_Node_Places : Nat := 141
noncomputable def c_slots_Slots_node_Node_Places : Code := Try.f141.body.getD .skip
theorem e_slots_Slots_node_Node_Places {args : List Value} {w : World} {R : Value → World → Prop} (hl : Nat.ble args.length 22 = true) (h : den Try.prog tt 22 sc0 c_slots_Slots_node_Node_Places (fnK tt [(.tmp 2)] R) (env0 args) w) : CallK Try.prog F_slots_Slots_node_Node_Places args R w :=
  callK_of_den tt_ok hmix (by kernel_rfl) Try.func141 rfl rfl rfl hl (by kernel_rfl) h
/-! (*pantile/slots.Slots[*pantile/node.Node]).Dense -/
abbrev F_slots_Slots_node_Node_Dense : Nat := 142
noncomputable def c_slots_Slots_node_Node_Dense : Code := Try.f142.body.getD .skip
def sc_slots_Slots_node_Node_Dense : Nat → Sc := fun i => bif Nat.beq i 1 then .take 0 1 (.take 1 2 (.take 2 3 (.take 3 4 (.take 4 5 (.take 5 6 (.take 6 11 (.take 7 8 (.take 8 9 (.take 9 10 (.take 10 11 (.one 11 (.take 12 13 (.one 13 (.done)))))))))))))) else .done
theorem e_slots_Slots_node_Node_Dense {args : List Value} {w : World} {R : Value → World → Prop} (hl : Nat.ble args.length 16 = true) (h : den Try.prog tt 16 sc_slots_Slots_node_Node_Dense c_slots_Slots_node_Node_Dense (fnK tt [(.tmp 2)] R) (env0 args) w) : CallK Try.prog F_slots_Slots_node_Node_Dense args R w :=
  callK_of_den tt_ok hmix (by kernel_rfl) Try.func142 rfl rfl rfl hl (by kernel_rfl) h
/-! (*pantile/slots.Slots[*pantile/node.Node]).Del -/
abbrev F_slots_Slots_node_Node_Del : Nat := 143
noncomputable def c_slots_Slots_node_Node_Del : Code := Try.f143.body.getD .skip
def sc_slots_Slots_node_Node_Del : Nat → Sc := fun i => bif Nat.beq i 7 then .take 0 1 (.take 1 2 (.take 2 3 (.take 3 8 (.take 4 5 (.take 6 7 (.one 5 (.one 7 (.one 8 (.take 9 10 (.one 10 (.done))))))))))) else .done
theorem e_slots_Slots_node_Node_Del {args : List Value} {w : World} {R : Value → World → Prop} (hl : Nat.ble args.length 32 = true) (h : den Try.prog tt 32 sc_slots_Slots_node_Node_Del c_slots_Slots_node_Node_Del (fnK tt [(.tmp 4), (.tmp 5)] R) (env0 args) w) : CallK Try.prog F_slots_Slots_node_Node_Del args R w :=
  callK_of_den tt_ok hmix (by kernel_rfl) Try.func143 rfl rfl rfl hl (by kernel_rfl) h
/-! (*pantile/slots.Slots[*pantile/node.Node]).Len -/
abbrev F_slots_Slots_node_Node_Len : Nat := 144
noncomputable def c_slots_Slots_node_Node_Len : Code := Try.f144.body.getD .skip
theorem e_slots_Slots_node_Node_Len {args : List Value} {w : World} {R : Value → World → Prop} (hl : Nat.ble args.length 9 = true) (h : den Try.prog tt 9 sc0 c_slots_Slots_node_Node_Len (fnK tt [(.tmp 2)] R) (env0 args) w) : CallK Try.prog F_slots_Slots_node_Node_Len args R w :=
  callK_of_den tt_ok hmix (by kernel_rfl) Try.func144 rfl rfl rfl hl (by kernel_rfl) h
/-! (*pantile/slots.Slots[*pantile/node.Node]).All -/
abbrev F_slots_Slots_node_Node_All : Nat := 145
noncomputable def c_slots_Slots_node_Node_All : Code := Try.f145.body.getD .skip
theorem e_slots_Slots_node_Node_All {args : List Value} {w : World} {R : Value → World → Prop} (hl : Nat.ble args.length 22 = true) (h : den Try.prog tt 22 sc0 c_slots_Slots_node_Node_All (fnK tt [(.tmp 2)] R) (env0 args) w) : CallK Try.prog F_slots_Slots_node_Node_All args R w :=
  callK_of_den tt_ok hmix (by kernel_rfl) Try.func145 rfl rfl rfl hl (by kernel_rfl) h
/-! (*pantile/slots.Slots[*pantile/node.Node]).check -/
abbrev F_slots_Slots_node_Node_check : Nat := 146
noncomputable def c_slots_Slots_node_Node_check : Code := Try.f146.body.getD .skip
theorem e_slots_Slots_node_Node_check {args : List Value} {w : World} {R : Value → World → Prop} (hl : Nat.ble args.length 20 = true) (h : den Try.prog tt 20 sc0 c_slots_Slots_node_Node_check (fnK tt [(.tmp 4)] R) (env0 args) w) : CallK Try.prog F_slots_Slots_node_Node_check args R w :=
  callK_of_den tt_ok hmix (by kernel_rfl) Try.func146 rfl rfl rfl hl (by kernel_rfl) h
/-! (*pantile/slots.Slots[*pantile/node.Node]).things -/
abbrev F_slots_Slots_node_Node_things : Nat := 147
noncomputable def c_slots_Slots_node_Node_things : Code := Try.f147.body.getD .skip
theorem e_slots_Slots_node_Node_things {args : List Value} {w : World} {R : Value → World → Prop} (hl : Nat.ble args.length 23 = true) (h : den Try.prog tt 23 sc0 c_slots_Slots_node_Node_things (fnK tt [(.tmp 2)] R) (env0 args) w) : CallK Try.prog F_slots_Slots_node_Node_things args R w :=
  callK_of_den tt_ok hmix (by kernel_rfl) Try.func147 rfl rfl rfl hl (by kernel_rfl) h
/-! slices.BinarySearchFunc[[]pantile/slots.cell[*pantile/node.Node],pantile/slots.cell[*pantile/node.Node],int] -/
abbrev F_slices_BinarySearchFunc_sl_slots_cell_node_Node_slots_cell_node_Node_int : Nat := 148
noncomputable def c_slices_BinarySearchFunc_sl_slots_cell_node_Node_slots_cell_node_Node_int : Code := Try.f148.body.getD .skip
theorem e_slices_BinarySearchFunc_sl_slots_cell_node_Node_slots_cell_node_Node_int {args : List Value} {w : World} {R : Value → World → Prop} (hl : Nat.ble args.length 49 = true) (h : den Try.prog tt 49 sc0 c_slices_BinarySearchFunc_sl_slots_cell_node_Node_slots_cell_node_Node_int (fnK tt [(.tmp 6), (.tmp 7)] R) (env0 args) w) : CallK Try.prog F_slices_BinarySearchFunc_sl_slots_cell_node_Node_slots_cell_node_Node_int args R w :=
  callK_of_den tt_ok hmix (by kernel_rfl) Try.func148 rfl rfl rfl hl (by kernel_rfl) h
/-! (*pantile/slots.Slots[*pantile/node.Node]).Put$1 -/
abbrev F_slots_Slots_node_Node_Put_1 : Nat := 149
noncomputable def c_slots_Slots_node_Node_Put_1 : Code := Try.f149.body.getD .skip
theorem e_slots_Slots_node_Node_Put_1 {args : List Value} {w : World} {R : Value → World → Prop} (hl : Nat.ble args.length 9 = true) (h : den Try.prog tt 9 sc0 c_slots_Slots_node_Node_Put_1 (fnK tt [(.tmp 4)] R) (env0 args) w) : CallK Try.prog F_slots_Slots_node_Node_Put_1 args R w :=
  callK_of_den tt_ok hmix (by kernel_rfl) Try.func149 rfl rfl rfl hl (by kernel_rfl) h
/-! slices.Insert[[]pantile/slots.cell[*pantile/node.Node],pantile/slots.cell[*pantile/node.Node]] -/
abbrev F_slices_Insert_sl_slots_cell_node_Node_slots_cell_node_Node : Nat := 150
noncomputable def c_slices_Insert_sl_slots_cell_node_Node_slots_cell_node_Node : Code := Try.f150.body.getD .skip
def sc_slices_Insert_sl_slots_cell_node_Node_slots_cell_node_Node : Nat → Sc := fun i => bif Nat.beq i 11 then .take 0 4 (.take 1 3 (.take 2 3 (.take 3 4 (.take 4 8 (.take 5 7 (.take 6 7 (.take 7 8 (.one 8 (.done))))))))) else bif Nat.beq i 15 then .take 0 4 (.take 1 3 (.take 2 3 (.take 3 4 (.take 4 8 (.take 5 7 (.take 6 7 (.take 7 8 (.one 8 (.done))))))))) else .done
theorem e_slices_Insert_sl_slots_cell_node_Node_slots_cell_node_Node {args : List Value} {w : World} {R : Value → World → Prop} (hl : Nat.ble args.length 95 = true) (h : den Try.prog tt 95 sc_slices_Insert_sl_slots_cell_node_Node_slots_cell_node_Node c_slices_Insert_sl_slots_cell_node_Node_slots_cell_node_Node (fnK tt [(.tmp 6)] R) (env0 args) w) : CallK Try.prog F_slices_Insert_sl_slots_cell_node_Node_slots_cell_node_Node args R w :=
  callK_of_den tt_ok hmix (by kernel_rfl) Try.func150 rfl rfl rfl hl (by kernel_rfl) h
/-! pantile/slots.kept[*pantile/node.Node] -/
abbrev F_slots_kept_node_Node : Nat := 151
noncomputable def c_slots_kept_node_Node : Code := Try.f151.body.getD .skip
def sc_slots_kept_node_Node : Nat → Sc := fun i => bif Nat.beq i 13 then .take 0 1 (.take 1 2 (.take 2 3 (.take 3 7 (.take 4 5 (.take 5 7 (.take 6 7 (.take 7 8 (.one 8 (.done))))))))) else .done
theorem e_slots_kept_node_Node {args : List Value} {w : World} {R : Value → World → Prop} (hl : Nat.ble args.length 60 = true) (h : den Try.prog tt 60 sc_slots_kept_node_Node c_slots_kept_node_Node (fnK tt [(.tmp 4)] R) (env0 args) w) : CallK Try.prog F_slots_kept_node_Node args R w :=
  callK_of_den tt_ok hmix (by kernel_rfl) Try.func151 rfl rfl rfl hl (by kernel_rfl) h
/-! pantile/zbits.above -/
abbrev F_zbits_above : Nat := 152
noncomputable def c_zbits_above : Code := Try.f152.body.getD .skip
theorem e_zbits_above {args : List Value} {w : World} {R : Value → World → Prop} (hl : Nat.ble args.length 8 = true) (h : den Try.prog tt 8 sc0 c_zbits_above (fnK tt [(.tmp 2)] R) (env0 args) w) : CallK Try.prog F_zbits_above args R w :=
  callK_of_den tt_ok hmix (by kernel_rfl) Try.func152 rfl rfl rfl hl (by kernel_rfl) h
/-! pantile/sets.side -/
abbrev F_sets_side : Nat := 153
noncomputable def c_sets_side : Code := Try.f153.body.getD .skip
theorem e_sets_side {args : List Value} {w : World} {R : Value → World → Prop} (hl : Nat.ble args.length 8 = true) (h : den Try.prog tt 8 sc0 c_sets_side (fnK tt [(.tmp 4)] R) (env0 args) w) : CallK Try.prog F_sets_side args R w :=
  callK_of_den tt_ok hmix (by kernel_rfl) Try.func153 rfl rfl rfl hl (by kernel_rfl) h
/-! (pantile/sets.joiner).entry -/
abbrev F_sets_joiner_entry : Nat := 154
noncomputable def c_sets_joiner_entry : Code := Try.f154.body.getD .skip
theorem e_sets_joiner_entry {args : List Value} {w : World} {R : Value → World → Prop} (hl : Nat.ble args.length 42 = true) (h : den Try.prog tt 42 sc0 c_sets_joiner_entry (fnK tt [(.tmp 8)] R) (env0 args) w) : CallK Try.prog F_sets_joiner_entry args R w :=
  callK_of_den tt_ok hmix (by kernel_rfl) Try.func154 rfl rfl rfl hl (by kernel_rfl) h
/-! (pantile/sets.joiner).kids -/
abbrev F_sets_joiner_kids : Nat := 155
noncomputable def c_sets_joiner_kids : Code := Try.f155.body.getD .skip
def sc_sets_joiner_kids : Nat → Sc := fun i => bif Nat.beq i 12 then .take 0 7 (.take 1 2 (.take 3 6 (.take 4 6 (.take 5 6 (.one 2 (.one 6 (.one 7 (.one 8 (.done))))))))) else .done
theorem e_sets_joiner_kids {args : List Value} {w : World} {R : Value → World → Prop} (hl : Nat.ble args.length 67 = true) (h : den Try.prog tt 67 sc_sets_joiner_kids c_sets_joiner_kids (fnK tt [(.tmp 6)] R) (env0 args) w) : CallK Try.prog F_sets_joiner_kids args R w :=
  callK_of_den tt_ok hmix (by kernel_rfl) Try.func155 rfl rfl rfl hl (by kernel_rfl) h
/-! (pantile/sets.joiner).inner -/
abbrev F_sets_joiner_inner : Nat := 156
noncomputable def c_sets_joiner_inner : Code := Try.f156.body.getD .skip
theorem e_sets_joiner_inner {args : List Value} {w : World} {R : Value → World → Prop} (hl : Nat.ble args.length 42 = true) (h : den Try.prog tt 42 sc0 c_sets_joiner_inner (fnK tt [(.tmp 10)] R) (env0 args) w) : CallK Try.prog F_sets_joiner_inner args R w :=
  callK_of_den tt_ok hmix (by kernel_rfl) Try.func156 rfl rfl rfl hl (by kernel_rfl) h
/-! pantile/sets.add -/
abbrev F_sets_add : Nat := 157
noncomputable def c_sets_add : Code := Try.f157.body.getD .skip
theorem e_sets_add {args : List Value} {w : World} {R : Value → World → Prop} (hl : Nat.ble args.length 33 = true) (h : den Try.prog tt 33 sc0 c_sets_add (fnK tt [(.tmp 6)] R) (env0 args) w) : CallK Try.prog F_sets_add args R w :=
  callK_of_den tt_ok hmix (by kernel_rfl) Try.func157 rfl rfl rfl hl (by kernel_rfl) h
/-! pantile/box.each -/
abbrev F_box_each : Nat := 158
noncomputable def c_box_each : Code := Try.f158.body.getD .skip
def sc_box_each : Nat → Sc := fun i => bif Nat.beq i 1 then .take 0 1 (.take 2 3 (.three 1 (.two 3 (.take 4 6 (.one 5 (.one 6 (.done)))) 5 (.one 3 (.take 4 6 (.one 6 (.done))))) 3 (.two 1 (.take 4 6 (.one 5 (.one 6 (.done)))) 5 (.one 1 (.take 4 6 (.one 6 (.done))))) 5 (.two 1 (.one 3 (.take 4 6 (.one 6 (.done)))) 3 (.one 1 (.take 4 6 (.one 6 (.done))))))) else bif Nat.beq i 5 then .take 0 1 (.take 1 12 (.take 2 12 (.take 3 4 (.take 4 14 (.take 5 14 (.take 6 8 (.take 7 8 (.one 8 (.take 9 10 (.take 10 12 (.take 11 14 (.take 12 13 (.one 13 (.take 14 15 (.one 15 (.done)))))))))))))))) else .done
theorem e_box_each {args : List Value} {w : World} {R : Value → World → Prop} (hl : Nat.ble args.length 32 = true) (h : den Try.prog tt 32 sc_box_each c_box_each (fnK tt [(.cell 4 56)] R) (env0 args) w) : CallK Try.prog F_box_each args R w :=
  callK_of_den tt_ok hmix (by kernel_rfl) Try.func158 rfl rfl rfl hl (by kernel_rfl) h
/-! pantile/box.Cell$1 -/
abbrev F_box_Cell_1 : Nat := 159
noncomputable def c_box_Cell_1 : Code := Try.f159.body.getD .skip
def sc_box_Cell_1 : Nat → Sc := fun i => bif Nat.beq i 1 then .take 0 2 (.take 1 2 (.take 2 3 (.take 3 10 (.take 4 6 (.take 5 6 (.take 6 7 (.take 7 9 (.take 8 9 (.take 9 11 (.take 10 11 (.one 11 (.done)))))))))))) else .done
theorem e_box_Cell_1 {args : List Value} {w : World} {R : Value → World → Prop} (hl : Nat.ble args.length 16 = true) (h : den Try.prog tt 16 sc_box_Cell_1 c_box_Cell_1 (fnK tt [(.tmp 4), (.tmp 5)] R) (env0 args) w) : CallK Try.prog F_box_Cell_1 args R w :=
  callK_of_den tt_ok hmix (by kernel_rfl) Try.func159 rfl rfl rfl hl (by kernel_rfl) h
/-! pantile/box.alike -/
abbrev F_box_alike : Nat := 160
noncomputable def c_box_alike : Code := Try.f160.body.getD .skip
theorem e_box_alike {args : List Value} {w : World} {R : Value → World → Prop} (hl : Nat.ble args.length 15 = true) (h : den Try.prog tt 15 sc0 c_box_alike (fnK tt [(.tmp 4)] R) (env0 args) w) : CallK Try.prog F_box_alike args R w :=
  callK_of_den tt_ok hmix (by kernel_rfl) Try.func160 rfl rfl rfl hl (by kernel_rfl) h
/-! pantile/box.empty -/
abbrev F_box_empty : Nat := 161
noncomputable def c_box_empty : Code := Try.f161.body.getD .skip
theorem e_box_empty {args : List Value} {w : World} {R : Value → World → Prop} (hl : Nat.ble args.length 21 = true) (h : den Try.prog tt 21 sc0 c_box_empty (fnK tt [(.tmp 2)] R) (env0 args) w) : CallK Try.prog F_box_empty args R w :=
  callK_of_den tt_ok hmix (by kernel_rfl) Try.func161 rfl rfl rfl hl (by kernel_rfl) h
/-! pantile/box.gap -/
abbrev F_box_gap : Nat := 162
noncomputable def c_box_gap : Code := Try.f162.body.getD .skip
theorem e_box_gap {args : List Value} {w : World} {R : Value → World → Prop} (hl : Nat.ble args.length 12 = true) (h : den Try.prog tt 12 sc0 c_box_gap (fnK tt [(.tmp 4)] R) (env0 args) w) : CallK Try.prog F_box_gap args R w :=
  callK_of_den tt_ok hmix (by kernel_rfl) Try.func162 rfl rfl rfl hl (by kernel_rfl) h
/-! container/heap.up -/
abbrev F_container_heap_up : Nat := 163
noncomputable def c_container_heap_up : Code := Try.f163.body.getD .skip
theorem e_container_heap_up {args : List Value} {w : World} {R : Value → World → Prop} (hl : Nat.ble args.length 23 = true) (h : den Try.prog tt 23 sc0 c_container_heap_up (fnK tt [] R) (env0 args) w) : CallK Try.prog F_container_heap_up args R w :=
  callK_of_den tt_ok hmix (by kernel_rfl) Try.func163 rfl rfl rfl hl (by kernel_rfl) h
/-! (pantile/mask.Mask).right -/
abbrev F_mask_Mask_right : Nat := 164
noncomputable def c_mask_Mask_right : Code := Try.f164.body.getD .skip
def sc_mask_Mask_right : Nat → Sc := fun i => bif Nat.beq i 1 then .take 0 1 (.take 1 2 (.take 2 3 (.take 3 4 (.take 4 5 (.take 5 6 (.take 6 7 (.take 7 8 (.take 8 9 (.take 9 10 (.take 10 13 (.take 11 12 (.one 12 (.take 13 14 (.take 14 15 (.take 15 16 (.take 16 17 (.take 17 18 (.take 18 21 (.take 19 20 (.one 20 (.take 21 22 (.take 22 23 (.take 23 24 (.one 24 (.done))))))))))))))))))))))))) else .done
theorem e_mask_Mask_right {args : List Value} {w : World} {R : Value → World → Prop} (hl : Nat.ble args.length 27 = true) (h : den Try.prog tt 27 sc_mask_Mask_right c_mask_Mask_right (fnK tt [(.tmp 2)] R) (env0 args) w) : CallK Try.prog F_mask_Mask_right args R w :=
  callK_of_den tt_ok hmix (by kernel_rfl) Try.func164 rfl rfl rfl hl (by kernel_rfl) h
/-! pantile/slots.dense -/
abbrev F_slots_dense : Nat := 165
noncomputable def c_slots_dense : Code := Try.f165.body.getD .skip
theorem e_slots_dense {args : List Value} {w : World} {R : Value → World → Prop} (hl : Nat.ble args.length 14 = true) (h : den Try.prog tt 14 sc0 c_slots_dense (fnK tt [(.tmp 4)] R) (env0 args) w) : CallK Try.prog F_slots_dense args R w :=
  callK_of_den tt_ok hmix (by kernel_rfl) Try.func165 rfl rfl rfl hl (by kernel_rfl) h
/-! slices.DeleteFunc[[]pantile/slots.cell[*pantile/node.Node],pantile/slots.cell[*pantile/node.Node]] -/
abbrev F_slices_DeleteFunc_sl_slots_cell_node_Node_slots_cell_node_Node : Nat := 166
noncomputable def c_slices_DeleteFunc_sl_slots_cell_node_Node_slots_cell_node_Node : Code := Try.f166.body.getD .skip
theorem e_slices_DeleteFunc_sl_slots_cell_node_Node_slots_cell_node_Node {args : List Value} {w : World} {R : Value → World → Prop} (hl : Nat.ble args.length 42 = true) (h : den Try.prog tt 42 sc0 c_slices_DeleteFunc_sl_slots_cell_node_Node_slots_cell_node_Node (fnK tt [(.tmp 4)] R) (env0 args) w) : CallK Try.prog F_slices_DeleteFunc_sl_slots_cell_node_Node_slots_cell_node_Node args R w :=
  callK_of_den tt_ok hmix (by kernel_rfl) Try.func166 rfl rfl rfl hl (by kernel_rfl) h
/-! (*pantile/slots.Slots[*pantile/node.Node]).Del$1 -/
abbrev F_slots_Slots_node_Node_Del_1 : Nat := 167
noncomputable def c_slots_Slots_node_Node_Del_1 : Code := Try.f167.body.getD .skip
theorem e_slots_Slots_node_Node_Del_1 {args : List Value} {w : World} {R : Value → World → Prop} (hl : Nat.ble args.length 8 = true) (h : den Try.prog tt 8 sc0 c_slots_Slots_node_Node_Del_1 (fnK tt [(.tmp 3)] R) (env0 args) w) : CallK Try.prog F_slots_Slots_node_Node_Del_1 args R w :=
  callK_of_den tt_ok hmix (by kernel_rfl) Try.func167 rfl rfl rfl hl (by kernel_rfl) h
/-! slices.rotateRight[pantile/slots.cell[*pantile/node.Node]] -/
abbrev F_slices_rotateRight_slots_cell_node_Node : Nat := 169
noncomputable def c_slices_rotateRight_slots_cell_node_Node : Code := Try.f169.body.getD .skip
theorem e_slices_rotateRight_slots_cell_node_Node {args : List Value} {w : World} {R : Value → World → Prop} (hl : Nat.ble args.length 10 = true) (h : den Try.prog tt 10 sc0 c_slices_rotateRight_slots_cell_node_Node (fnK tt [] R) (env0 args) w) : CallK Try.prog F_slices_rotateRight_slots_cell_node_Node args R w :=
  callK_of_den tt_ok hmix (by kernel_rfl) Try.func169 rfl rfl rfl hl (by kernel_rfl) h
/-! pantile/sets.value -/
abbrev F_sets_value : Nat := 170
noncomputable def c_sets_value : Code := Try.f170.body.getD .skip
theorem e_sets_value {args : List Value} {w : World} {R : Value → World → Prop} (hl : Nat.ble args.length 36 = true) (h : den Try.prog tt 36 sc0 c_sets_value (fnK tt [(.tmp 6)] R) (env0 args) w) : CallK Try.prog F_sets_value args R w :=
  callK_of_den tt_ok hmix (by kernel_rfl) Try.func170 rfl rfl rfl hl (by kernel_rfl) h
/-! slices.IndexFunc[[]pantile/slots.cell[*pantile/node.Node],pantile/slots.cell[*pantile/node.Node]] -/
abbrev F_slices_IndexFunc_sl_slots_cell_node_Node_slots_cell_node_Node : Nat := 171
noncomputable def c_slices_IndexFunc_sl_slots_cell_node_Node_slots_cell_node_Node : Code := Try.f171.body.getD .skip
theorem e_slices_IndexFunc_sl_slots_cell_node_Node_slots_cell_node_Node {args : List Value} {w : World} {R : Value → World → Prop} (hl : Nat.ble args.length 19 = true) (h : den Try.prog tt 19 sc0 c_slices_IndexFunc_sl_slots_cell_node_Node_slots_cell_node_Node (fnK tt [(.tmp 4)] R) (env0 args) w) : CallK Try.prog F_slices_IndexFunc_sl_slots_cell_node_Node_slots_cell_node_Node args R w :=
  callK_of_den tt_ok hmix (by kernel_rfl) Try.func171 rfl rfl rfl hl (by kernel_rfl) h
/-! slices.rotateLeft[pantile/slots.cell[*pantile/node.Node]] -/
abbrev F_slices_rotateLeft_slots_cell_node_Node : Nat := 172
noncomputable def c_slices_rotateLeft_slots_cell_node_Node : Code := Try.f172.body.getD .skip
theorem e_slices_rotateLeft_slots_cell_node_Node {args : List Value} {w : World} {R : Value → World → Prop} (hl : Nat.ble args.length 14 = true) (h : den Try.prog tt 14 sc0 c_slices_rotateLeft_slots_cell_node_Node (fnK tt [] R) (env0 args) w) : CallK Try.prog F_slices_rotateLeft_slots_cell_node_Node args R w :=
  callK_of_den tt_ok hmix (by kernel_rfl) Try.func172 rfl rfl rfl hl (by kernel_rfl) h
/-! slices.Reverse[[]pantile/slots.cell[*pantile/node.Node],pantile/slots.cell[*pantile/node.Node]] -/
abbrev F_slices_Reverse_sl_slots_cell_node_Node_slots_cell_node_Node : Nat := 173
noncomputable def c_slices_Reverse_sl_slots_cell_node_Node_slots_cell_node_Node : Code := Try.f173.body.getD .skip
def sc_slices_Reverse_sl_slots_cell_node_Node_slots_cell_node_Node : Nat → Sc := fun i => bif Nat.beq i 3 then .take 0 12 (.take 1 12 (.take 2 14 (.take 3 14 (.take 4 6 (.take 5 6 (.take 6 7 (.take 7 12 (.take 8 10 (.take 9 10 (.take 10 11 (.take 11 12 (.take 12 13 (.one 13 (.take 14 15 (.one 15 (.done)))))))))))))))) else .done
theorem e_slices_Reverse_sl_slots_cell_node_Node_slots_cell_node_Node {args : List Value} {w : World} {R : Value → World → Prop} (hl : Nat.ble args.length 28 = true) (h : den Try.prog tt 28 sc_slices_Reverse_sl_slots_cell_node_Node_slots_cell_node_Node c_slices_Reverse_sl_slots_cell_node_Node_slots_cell_node_Node (fnK tt [] R) (env0 args) w) : CallK Try.prog F_slices_Reverse_sl_slots_cell_node_Node_slots_cell_node_Node args R w :=
  callK_of_den tt_ok hmix (by kernel_rfl) Try.func173 rfl rfl rfl hl (by kernel_rfl) h
/-! (pantile/near.pile).Less -/
abbrev F_near_pile_Less : Nat := 191
noncomputable def c_near_pile_Less : Code := Try.f191.body.getD .skip
def sc_near_pile_Less : Nat → Sc := fun i => bif Nat.beq i 1 then .take 0 2 (.take 1 2 (.take 2 3 (.take 3 10 (.take 4 6 (.take 5 6 (.take 6 7 (.take 7 11 (.two 8 (.one 9 (.one 10 (.one 11 (.done)))) 9 (.one 8 (.one 10 (.one 11 (.done)))))))))))) else bif Nat.beq i 4 then .take 0 1 (.take 1 2 (.take 4 5 (.take 5 6 (.one 2 (.take 3 8 (.one 6 (.take 7 9 (.take 8 9 (.one 9 (.done)))))))))) else .done
theorem e_near_pile_Less {args : List Value} {w : World} {R : Value → World → Prop} (hl : Nat.ble args.length 53 = true) (h : den Try.prog tt 53 sc_near_pile_Less c_near_pile_Less (fnK tt [(.tmp 6)] R) (env0 args) w) : CallK Try.prog F_near_pile_Less args R w :=
  callK_of_den tt_ok hmix (by kernel_rfl) Try.func191 rfl rfl rfl hl (by kernel_rfl) h
/-! (*pantile/near.pile).Pop -/
abbrev F_near_pile_Pop : Nat := 192
noncomputable def c_near_pile_Pop : Code := Try.f192.body.getD .skip
def sc_near_pile_Pop : Nat → Sc := fun i => bif Nat.beq i 1 then .take 0 1 (.take 1 2 (.take 2 8 (.take 3 4 (.take 4 5 (.take 5 6 (.take 6 7 (.take 7 8 (.take 8 9 (.take 9 11 (.one 10 (.one 11 (.done)))))))))))) else bif Nat.beq i 2 then .take 0 10 (.take 1 2 (.take 2 3 (.take 3 9 (.take 4 5 (.take 5 6 (.take 6 7 (.take 7 8 (.take 8 9 (.take 9 10 (.take 10 11 (.one 11 (.done)))))))))))) else .done
theorem e_near_pile_Pop {args : List Value} {w : World} {R : Value → World → Prop} (hl : Nat.ble args.length 27 = true) (h : den Try.prog tt 27 sc_near_pile_Pop c_near_pile_Pop (fnK tt [(.tmp 2)] R) (env0 args) w) : CallK Try.prog F_near_pile_Pop args R w :=
  callK_of_den tt_ok hmix (by kernel_rfl) Try.func192 rfl rfl rfl hl (by kernel_rfl) h
/-! (*pantile/near.pile).Push -/
abbrev F_near_pile_Push : Nat := 193
noncomputable def c_near_pile_Push : Code := Try.f193.body.getD .skip
def sc_near_pile_Push : Nat → Sc := fun i => bif Nat.beq i 0 then .take 0 8 (.take 1 2 (.take 2 3 (.take 3 7 (.take 4 5 (.one 5 (.one 6 (.one 7 (.take 8 9 (.one 9 (.done)))))))))) else .done
theorem e_near_pile_Push {args : List Value} {w : World} {R : Value → World → Prop} (hl : Nat.ble args.length 13 = true) (h : den Try.prog tt 13 sc_near_pile_Push c_near_pile_Push (fnK tt [] R) (env0 args) w) : CallK Try.prog F_near_pile_Push args R w :=
  callK_of_den tt_ok hmix (by kernel_rfl) Try.func193 rfl rfl rfl hl (by kernel_rfl) h
/-! (pantile/near.pile).Swap -/
abbrev F_near_pile_Swap : Nat := 194
noncomputable def c_near_pile_Swap : Code := Try.f194.body.getD .skip
def sc_near_pile_Swap : Nat → Sc := fun i => bif Nat.beq i 0 then .take 0 12 (.take 1 12 (.take 2 14 (.take 3 14 (.take 4 6 (.take 5 6 (.take 6 7 (.take 7 12 (.take 8 10 (.take 9 10 (.take 10 11 (.take 11 12 (.take 12 13 (.one 13 (.take 14 15 (.one 15 (.done)))))))))))))))) else .done
theorem e_near_pile_Swap {args : List Value} {w : World} {R : Value → World → Prop} (hl : Nat.ble args.length 20 = true) (h : den Try.prog tt 20 sc_near_pile_Swap c_near_pile_Swap (fnK tt [] R) (env0 args) w) : CallK Try.prog F_near_pile_Swap args R w :=
  callK_of_den tt_ok hmix (by kernel_rfl) Try.func194 rfl rfl rfl hl (by kernel_rfl) h
abbrev F_slices_overlaps_slots_cell_node_Node : Nat := 168
theorem fn_slices_overlaps_slots_cell_node_Node : Try.prog.funcs[F_slices_overlaps_slots_cell_node_Node]? = some Try.f168 := Try.func168
end Go.Proofs.Ytlpndcfkjkbeoaa
