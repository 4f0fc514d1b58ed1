/- Closed facts of the program that the walks use: the offsets of fields, sizes of types, which functions can be called. No condition. -/
import Derived.Test.YtpcefpobilpiiaaGreatDoorProg
import Derived.Test.YtpcefpobilpiiaaGreatDoorOwn
set_option maxRecDepth 100000
namespace Go.Proofs.YtpcefpobilpiiaaGreatDoor.Calc
open Go Go.RowKit
theorem fo_43_0 : fieldOff Tryz.prog 43 0 = some 0 := by kernel_rfl
theorem fo_43_1 : fieldOff Tryz.prog 43 1 = some 1 := by kernel_rfl
theorem fo_43_2 : fieldOff Tryz.prog 43 2 = some 2 := by kernel_rfl
theorem fo_43_3 : fieldOff Tryz.prog 43 3 = some 3 := by kernel_rfl
theorem fo_43_4 : fieldOff Tryz.prog 43 4 = some 4 := by kernel_rfl
theorem fo_43_5 : fieldOff Tryz.prog 43 5 = some 5 := by kernel_rfl
theorem fo_43_6 : fieldOff Tryz.prog 43 6 = some 6 := by kernel_rfl
theorem fo_43_7 : fieldOff Tryz.prog 43 7 = some 7 := by kernel_rfl
theorem fo_43_8 : fieldOff Tryz.prog 43 8 = some 8 := by kernel_rfl
theorem fo_65_0 : fieldOff Tryz.prog 65 0 = some 0 := by kernel_rfl
theorem fo_65_1 : fieldOff Tryz.prog 65 1 = some 1 := by kernel_rfl
theorem fo_65_2 : fieldOff Tryz.prog 65 2 = some 2 := by kernel_rfl
theorem fo_65_3 : fieldOff Tryz.prog 65 3 = some 3 := by kernel_rfl
theorem fo_65_4 : fieldOff Tryz.prog 65 4 = some 4 := by kernel_rfl
theorem fo_65_5 : fieldOff Tryz.prog 65 5 = some 5 := by kernel_rfl
theorem fo_50_0 : fieldOff Tryz.prog 50 0 = some 0 := by kernel_rfl
theorem fo_50_1 : fieldOff Tryz.prog 50 1 = some 1 := by kernel_rfl
theorem fo_68_0 : fieldOff Tryz.prog 68 0 = some 0 := by kernel_rfl
theorem fo_68_1 : fieldOff Tryz.prog 68 1 = some 1 := by kernel_rfl
theorem fo_68_2 : fieldOff Tryz.prog 68 2 = some 2 := by kernel_rfl
theorem fo_45_0 : fieldOff Tryz.prog 45 0 = some 0 := by kernel_rfl
theorem fo_45_1 : fieldOff Tryz.prog 45 1 = some 1 := by kernel_rfl
theorem fo_56_0 : fieldOff Tryz.prog 56 0 = some 0 := by kernel_rfl
theorem fo_56_1 : fieldOff Tryz.prog 56 1 = some 1 := by kernel_rfl
theorem fo_56_2 : fieldOff Tryz.prog 56 2 = some 2 := by kernel_rfl
theorem fo_53_0 : fieldOff Tryz.prog 53 0 = some 0 := by kernel_rfl
theorem si_3 : singleT Tryz.prog 3 = true := by kernel_rfl
theorem si_4 : singleT Tryz.prog 4 = true := by kernel_rfl
theorem si_5 : singleT Tryz.prog 5 = true := by kernel_rfl
theorem si_9 : singleT Tryz.prog 9 = true := by kernel_rfl
theorem si_22 : singleT Tryz.prog 22 = true := by kernel_rfl
theorem si_25 : singleT Tryz.prog 25 = true := by kernel_rfl
theorem si_28 : singleT Tryz.prog 28 = true := by kernel_rfl
theorem si_29 : singleT Tryz.prog 29 = true := by kernel_rfl
theorem si_37 : singleT Tryz.prog 37 = true := by kernel_rfl
theorem si_38 : singleT Tryz.prog 38 = true := by kernel_rfl
theorem si_39 : singleT Tryz.prog 39 = true := by kernel_rfl
theorem si_40 : singleT Tryz.prog 40 = true := by kernel_rfl
theorem si_41 : singleT Tryz.prog 41 = true := by kernel_rfl
theorem si_71 : singleT Tryz.prog 71 = true := by kernel_rfl
theorem si_73 : singleT Tryz.prog 73 = true := by kernel_rfl
theorem si_110 : singleT Tryz.prog 110 = true := by kernel_rfl
theorem si_62 : singleT Tryz.prog 62 = true := by kernel_rfl
theorem si_66 : singleT Tryz.prog 66 = true := by kernel_rfl
theorem si_79 : singleT Tryz.prog 79 = true := by kernel_rfl
theorem si_33 : singleT Tryz.prog 33 = true := by kernel_rfl
theorem si_82 : singleT Tryz.prog 82 = true := by kernel_rfl
theorem si_32 : singleT Tryz.prog 32 = true := by kernel_rfl
theorem si_85 : singleT Tryz.prog 85 = true := by kernel_rfl
theorem ag_43 : aggT Tryz.prog 43 9 = true := by kernel_rfl
theorem ag_65 : aggT Tryz.prog 65 6 = true := by kernel_rfl
theorem ag_50 : aggT Tryz.prog 50 2 = true := by kernel_rfl
theorem ag_68 : aggT Tryz.prog 68 3 = true := by kernel_rfl
theorem ag_45 : aggT Tryz.prog 45 2 = true := by kernel_rfl
theorem ag_56 : aggT Tryz.prog 56 3 = true := by kernel_rfl
theorem ag_53 : aggT Tryz.prog 53 1 = true := by kernel_rfl
theorem ag_30 : aggT Tryz.prog 30 2 = true := by kernel_rfl
theorem ag_36 : aggT Tryz.prog 36 2 = true := by kernel_rfl
theorem sl_22 : sliceOf Tryz.prog 22 9 = true := by kernel_rfl
theorem sl_28 : sliceOf Tryz.prog 28 6 = true := by kernel_rfl
theorem sl_29 : sliceOf Tryz.prog 29 6 = true := by kernel_rfl
theorem sl_37 : sliceOf Tryz.prog 37 2 = true := by kernel_rfl
theorem sl_38 : sliceOf Tryz.prog 38 1 = true := by kernel_rfl
theorem sl_39 : sliceOf Tryz.prog 39 3 = true := by kernel_rfl
theorem sl_40 : sliceOf Tryz.prog 40 1 = true := by kernel_rfl
theorem sl_41 : sliceOf Tryz.prog 41 2 = true := by kernel_rfl
theorem sl_115 : sliceOf Tryz.prog 115 1 = true := by kernel_rfl
theorem sl_134 : sliceOf Tryz.prog 134 1 = true := by kernel_rfl
theorem ze_43 : (Tryz.prog.info? 43).map (·.zero) = some (some (.agg ([.int .i64 0, .bool false, .string ⟨#[]⟩, .bool false, .slice none 0 0, .slice none 0 0, .slice none 0 0, .slice none 0 0, .slice none 0 0] : List Value).toArray)) := by kernel_rfl
theorem zs_43 : (Tryz.prog.info? 43).map (·.size) = some 9 := by kernel_rfl
theorem ze_65 : (Tryz.prog.info? 65).map (·.zero) = some (some (.agg ([.int .i64 0, .string ⟨#[]⟩, .int .i64 0, .bool false, .slice none 0 0, .slice none 0 0] : List Value).toArray)) := by kernel_rfl
theorem zs_65 : (Tryz.prog.info? 65).map (·.size) = some 6 := by kernel_rfl
theorem ze_50 : (Tryz.prog.info? 50).map (·.zero) = some (some (.agg ([.string ⟨#[]⟩, .slice none 0 0] : List Value).toArray)) := by kernel_rfl
theorem zs_50 : (Tryz.prog.info? 50).map (·.size) = some 2 := by kernel_rfl
theorem ze_68 : (Tryz.prog.info? 68).map (·.zero) = some (some (.agg ([.int .i64 0, .int .i64 0, .slice none 0 0] : List Value).toArray)) := by kernel_rfl
theorem zs_68 : (Tryz.prog.info? 68).map (·.size) = some 3 := by kernel_rfl
theorem ze_45 : (Tryz.prog.info? 45).map (·.zero) = some (some (.agg ([.slice none 0 0, .slice none 0 0] : List Value).toArray)) := by kernel_rfl
theorem zs_45 : (Tryz.prog.info? 45).map (·.size) = some 2 := by kernel_rfl
theorem ze_56 : (Tryz.prog.info? 56).map (·.zero) = some (some (.agg ([.int .i64 0, .int .i64 0, .int .i64 0] : List Value).toArray)) := by kernel_rfl
theorem zs_56 : (Tryz.prog.info? 56).map (·.size) = some 3 := by kernel_rfl
theorem ze_53 : (Tryz.prog.info? 53).map (·.zero) = some (some (.agg ([.bool false] : List Value).toArray)) := by kernel_rfl
theorem zs_53 : (Tryz.prog.info? 53).map (·.size) = some 1 := by kernel_rfl
theorem zv_29 : (Tryz.prog.info? 29).map (·.zero) = some (some (.slice none 0 0)) := by kernel_rfl
theorem zv_22 : (Tryz.prog.info? 22).map (·.zero) = some (some (.slice none 0 0)) := by kernel_rfl
theorem zw_29 : (Tryz.prog.info? 29).map (·.size) = some 1 := by kernel_rfl
theorem zw_22 : (Tryz.prog.info? 22).map (·.size) = some 1 := by kernel_rfl
theorem in_29 : (Tryz.prog.info? 29).map (fun i => (i.zero, i.size, i.bytes)) = some (some (.slice none 0 0), 1, 24) := by kernel_rfl
theorem in_22 : (Tryz.prog.info? 22).map (fun i => (i.zero, i.size, i.bytes)) = some (some (.slice none 0 0), 1, 24) := by kernel_rfl
theorem ca_3 : callable Tryz.prog 3 = true := by kernel_rfl
theorem ca_4 : callable Tryz.prog 4 = true := by kernel_rfl
theorem ca_5 : callable Tryz.prog 5 = true := by kernel_rfl
theorem ca_6 : callable Tryz.prog 6 = true := by kernel_rfl
theorem ca_7 : callable Tryz.prog 7 = true := by kernel_rfl
theorem ca_8 : callable Tryz.prog 8 = true := by kernel_rfl
theorem ca_9 : callable Tryz.prog 9 = true := by kernel_rfl
theorem ca_10 : callable Tryz.prog 10 = true := by kernel_rfl
theorem ca_11 : callable Tryz.prog 11 = true := by kernel_rfl
theorem ca_12 : callable Tryz.prog 12 = true := by kernel_rfl
theorem ca_13 : callable Tryz.prog 13 = true := by kernel_rfl
theorem ca_14 : callable Tryz.prog 14 = true := by kernel_rfl
theorem ca_15 : callable Tryz.prog 15 = true := by kernel_rfl
theorem ca_16 : callable Tryz.prog 16 = true := by kernel_rfl
theorem ca_17 : callable Tryz.prog 17 = true := by kernel_rfl
theorem ca_18 : callable Tryz.prog 18 = true := by kernel_rfl
theorem ca_19 : callable Tryz.prog 19 = true := by kernel_rfl
theorem ca_20 : callable Tryz.prog 20 = true := by kernel_rfl
theorem ca_21 : callable Tryz.prog 21 = true := by kernel_rfl
theorem ca_22 : callable Tryz.prog 22 = true := by kernel_rfl
theorem ca_23 : callable Tryz.prog 23 = true := by kernel_rfl
theorem ca_24 : callable Tryz.prog 24 = true := by kernel_rfl
theorem ca_25 : callable Tryz.prog 25 = true := by kernel_rfl
theorem ca_26 : callable Tryz.prog 26 = true := by kernel_rfl
theorem ca_27 : callable Tryz.prog 27 = true := by kernel_rfl
theorem ca_28 : callable Tryz.prog 28 = true := by kernel_rfl
theorem ca_29 : callable Tryz.prog 29 = true := by kernel_rfl
theorem ca_30 : callable Tryz.prog 30 = true := by kernel_rfl
theorem ca_31 : callable Tryz.prog 31 = true := by kernel_rfl
theorem ca_32 : callable Tryz.prog 32 = true := by kernel_rfl
theorem ca_33 : callable Tryz.prog 33 = true := by kernel_rfl
theorem ca_34 : callable Tryz.prog 34 = true := by kernel_rfl
theorem ca_35 : callable Tryz.prog 35 = true := by kernel_rfl
theorem ca_36 : callable Tryz.prog 36 = true := by kernel_rfl
theorem ca_37 : callable Tryz.prog 37 = true := by kernel_rfl
theorem ca_38 : callable Tryz.prog 38 = true := by kernel_rfl
theorem ca_39 : callable Tryz.prog 39 = true := by kernel_rfl
theorem ca_40 : callable Tryz.prog 40 = true := by kernel_rfl
theorem ca_41 : callable Tryz.prog 41 = true := by kernel_rfl
theorem ca_42 : callable Tryz.prog 42 = true := by kernel_rfl
theorem ca_43 : callable Tryz.prog 43 = true := by kernel_rfl
theorem ca_44 : callable Tryz.prog 44 = true := by kernel_rfl
theorem ca_45 : callable Tryz.prog 45 = true := by kernel_rfl
theorem ca_46 : callable Tryz.prog 46 = true := by kernel_rfl
theorem ca_47 : callable Tryz.prog 47 = true := by kernel_rfl
theorem ca_48 : callable Tryz.prog 48 = true := by kernel_rfl
theorem ca_49 : callable Tryz.prog 49 = true := by kernel_rfl
theorem ca_50 : callable Tryz.prog 50 = true := by kernel_rfl
theorem ca_51 : callable Tryz.prog 51 = true := by kernel_rfl
theorem ca_52 : callable Tryz.prog 52 = true := by kernel_rfl
theorem ca_53 : callable Tryz.prog 53 = true := by kernel_rfl
theorem ca_54 : callable Tryz.prog 54 = true := by kernel_rfl
theorem ca_55 : callable Tryz.prog 55 = true := by kernel_rfl
theorem ca_56 : callable Tryz.prog 56 = true := by kernel_rfl
theorem ca_57 : callable Tryz.prog 57 = true := by kernel_rfl
theorem ca_58 : callable Tryz.prog 58 = true := by kernel_rfl
theorem ca_59 : callable Tryz.prog 59 = true := by kernel_rfl
theorem ca_60 : callable Tryz.prog 60 = true := by kernel_rfl
theorem ca_61 : callable Tryz.prog 61 = true := by kernel_rfl
theorem ca_62 : callable Tryz.prog 62 = true := by kernel_rfl
theorem ca_63 : callable Tryz.prog 63 = true := by kernel_rfl
theorem ca_64 : callable Tryz.prog 64 = true := by kernel_rfl
theorem ca_65 : callable Tryz.prog 65 = true := by kernel_rfl
theorem ca_66 : callable Tryz.prog 66 = true := by kernel_rfl
theorem ca_67 : callable Tryz.prog 67 = true := by kernel_rfl
theorem ca_68 : callable Tryz.prog 68 = true := by kernel_rfl
theorem ca_69 : callable Tryz.prog 69 = true := by kernel_rfl
theorem ca_70 : callable Tryz.prog 70 = true := by kernel_rfl
theorem ca_71 : callable Tryz.prog 71 = true := by kernel_rfl
theorem ca_72 : callable Tryz.prog 72 = true := by kernel_rfl
theorem ca_73 : callable Tryz.prog 73 = true := by kernel_rfl
theorem ca_74 : callable Tryz.prog 74 = true := by kernel_rfl
theorem ca_75 : callable Tryz.prog 75 = true := by kernel_rfl
theorem ca_76 : callable Tryz.prog 76 = true := by kernel_rfl
theorem ca_77 : callable Tryz.prog 77 = true := by kernel_rfl
theorem ca_78 : callable Tryz.prog 78 = true := by kernel_rfl
theorem ca_79 : callable Tryz.prog 79 = true := by kernel_rfl
theorem ca_80 : callable Tryz.prog 80 = true := by kernel_rfl
theorem ca_81 : callable Tryz.prog 81 = true := by kernel_rfl
theorem ca_82 : callable Tryz.prog 82 = true := by kernel_rfl
theorem ca_83 : callable Tryz.prog 83 = true := by kernel_rfl
theorem ca_84 : callable Tryz.prog 84 = true := by kernel_rfl
theorem ca_85 : callable Tryz.prog 85 = true := by kernel_rfl
theorem ca_86 : callable Tryz.prog 86 = true := by kernel_rfl
theorem ca_87 : callable Tryz.prog 87 = true := by kernel_rfl
theorem ca_88 : callable Tryz.prog 88 = true := by kernel_rfl
theorem ca_89 : callable Tryz.prog 89 = true := by kernel_rfl
theorem ca_90 : callable Tryz.prog 90 = true := by kernel_rfl
theorem ca_91 : callable Tryz.prog 91 = true := by kernel_rfl
theorem ca_92 : callable Tryz.prog 92 = true := by kernel_rfl
theorem ca_93 : callable Tryz.prog 93 = true := by kernel_rfl
theorem ca_94 : callable Tryz.prog 94 = true := by kernel_rfl
theorem ca_95 : callable Tryz.prog 95 = true := by kernel_rfl
theorem ca_96 : callable Tryz.prog 96 = true := by kernel_rfl
theorem ca_97 : callable Tryz.prog 97 = true := by kernel_rfl
theorem ca_98 : callable Tryz.prog 98 = true := by kernel_rfl
theorem ca_99 : callable Tryz.prog 99 = true := by kernel_rfl
theorem ca_100 : callable Tryz.prog 100 = true := by kernel_rfl
theorem ca_101 : callable Tryz.prog 101 = true := by kernel_rfl
theorem ca_102 : callable Tryz.prog 102 = true := by kernel_rfl
theorem ca_103 : callable Tryz.prog 103 = true := by kernel_rfl
theorem ca_104 : callable Tryz.prog 104 = true := by kernel_rfl
theorem ca_105 : callable Tryz.prog 105 = true := by kernel_rfl
theorem ca_106 : callable Tryz.prog 106 = true := by kernel_rfl
theorem ca_107 : callable Tryz.prog 107 = true := by kernel_rfl
theorem ca_108 : callable Tryz.prog 108 = true := by kernel_rfl
theorem ca_109 : callable Tryz.prog 109 = true := by kernel_rfl
theorem ca_111 : callable Tryz.prog 111 = true := by kernel_rfl
theorem ca_112 : callable Tryz.prog 112 = true := by kernel_rfl
theorem ca_113 : callable Tryz.prog 113 = true := by kernel_rfl
theorem ca_114 : callable Tryz.prog 114 = true := by kernel_rfl
theorem ca_115 : callable Tryz.prog 115 = true := by kernel_rfl
theorem ca_116 : callable Tryz.prog 116 = true := by kernel_rfl
theorem ca_117 : callable Tryz.prog 117 = true := by kernel_rfl
theorem ca_118 : callable Tryz.prog 118 = true := by kernel_rfl
theorem ca_119 : callable Tryz.prog 119 = true := by kernel_rfl
theorem ca_120 : callable Tryz.prog 120 = true := by kernel_rfl
theorem ca_121 : callable Tryz.prog 121 = true := by kernel_rfl
theorem ca_122 : callable Tryz.prog 122 = true := by kernel_rfl
theorem ca_124 : callable Tryz.prog 124 = true := by kernel_rfl
theorem ca_125 : callable Tryz.prog 125 = true := by kernel_rfl
theorem ca_126 : callable Tryz.prog 126 = true := by kernel_rfl
theorem ca_127 : callable Tryz.prog 127 = true := by kernel_rfl
theorem ca_128 : callable Tryz.prog 128 = true := by kernel_rfl
theorem ca_129 : callable Tryz.prog 129 = true := by kernel_rfl
theorem ca_130 : callable Tryz.prog 130 = true := by kernel_rfl
theorem ca_131 : callable Tryz.prog 131 = true := by kernel_rfl
end Go.Proofs.YtpcefpobilpiiaaGreatDoor.Calc
