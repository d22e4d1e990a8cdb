/- The shallow reading of one function, and that the function does it. Written by a program. -/
import Derived.Test.YtkagmlpnidijaaaFnC
set_option linter.unusedVariables false
namespace Go.Proofs.Ytkagmlpnidijaaa
open Go Go.HW

def betonylaw05_PenReset_j3 (R : Value → Heap → Prop) (x6 x7 : Value) (h_6 : Heap) : Prop :=
  sLdN h_6 x6 3 fun x50 =>
  sBuild #[.int .i64 0, .int .i64 0, .int .i64 0] [(2, 1, (.int .i64 8))] fun x51 =>
  sEqlAgg x50 x51 [some .i64, some .i64, some .i64] fun x52 =>
  sAnd x52 (fun k_2 =>
  sOff x7 2 fun x54 =>
  sLd h_6 x54 fun x55 =>
  sEq x55 (.int .i64 0) fun x56 =>
  k_2 x56) fun x57 =>
  sAndH x57 h_6 (fun k_1 =>
  betonylaw05_awake_c  h_6 fun x59 h_8 => 
  k_1 x59 h_8) fun x60 h_7 =>
  R x60 h_7
def betonylaw05_PenReset_j2 (R : Value → Heap → Prop) (x1 x2 x6 : Value) (h_5 : Heap) : Prop :=
  ∃ C : Heap → Prop, C h_5 ∧ (sLdNC C x2 3 fun x43 =>
  (sSlit h_5 #[] [] 3 0 fun x44 h_9 => C h_9 ∧ (
  (sApp h_9 x44 x1 #[.int .i64 0] 3 8 fun x46 h_10 => C h_10 ∧ (
  (sSlit h_10 #[.int .i64 0, .int .i64 0, .int .i64 0, .int .i64 0, .int .i64 0, .int .i64 0, .int .i64 0] [(0, 1, (.int .i64 22)), (1, 1, (.int .i64 23)), (2, 1, (.int .i64 24)), (3, 1, (.int .i64 25)), (4, 1, (.int .i64 27)), (5, 1, (.int .i64 28)), (6, 1, (.int .i64 29))] 3 7 fun x47 h_11 => C h_11 ∧ (
  (sApp h_11 x46 x47 #[.int .i64 0] 3 8 fun x48 h_12 => C h_12 ∧ (
  (pen_Apply_c x43 x48 h_12 fun x49 h_13 => 
  sNew h_13 #[.int .i64 0, .int .i64 0, .int .i64 0] 23 fun x7_1 h_14 => C h_14 ∧ (
  sStN h_14 x7_1 x49 3 fun h_15 => 
  betonylaw05_PenReset_j3 R x6 x7_1 h_15)) ∧
  (sNew h_12 #[.int .i64 0, .int .i64 0, .int .i64 0] 23 fun x7_2 h_16 => C h_16 ∧ (
  pen_Apply_c x43 x48 h_16 fun x49_1 h_17 => 
  sStN h_17 x7_2 x49_1 3 fun h_18 => 
  betonylaw05_PenReset_j3 R x6 x7_2 h_18)))) ∧
  (sNew h_11 #[.int .i64 0, .int .i64 0, .int .i64 0] 23 fun x7_3 h_19 => C h_19 ∧ (
  sApp h_19 x46 x47 #[.int .i64 0] 3 8 fun x48_1 h_20 => C h_20 ∧ (
  pen_Apply_c x43 x48_1 h_20 fun x49_2 h_21 => 
  sStN h_21 x7_3 x49_2 3 fun h_22 => 
  betonylaw05_PenReset_j3 R x6 x7_3 h_22))))) ∧
  (sNew h_10 #[.int .i64 0, .int .i64 0, .int .i64 0] 23 fun x7_4 h_23 => C h_23 ∧ (
  sSlit h_23 #[.int .i64 0, .int .i64 0, .int .i64 0, .int .i64 0, .int .i64 0, .int .i64 0, .int .i64 0] [(0, 1, (.int .i64 22)), (1, 1, (.int .i64 23)), (2, 1, (.int .i64 24)), (3, 1, (.int .i64 25)), (4, 1, (.int .i64 27)), (5, 1, (.int .i64 28)), (6, 1, (.int .i64 29))] 3 7 fun x47_1 h_24 => C h_24 ∧ (
  sApp h_24 x46 x47_1 #[.int .i64 0] 3 8 fun x48_2 h_25 => C h_25 ∧ (
  pen_Apply_c x43 x48_2 h_25 fun x49_3 h_26 => 
  sStN h_26 x7_4 x49_3 3 fun h_27 => 
  betonylaw05_PenReset_j3 R x6 x7_4 h_27)))))) ∧
  ((sSlit h_9 #[.int .i64 0, .int .i64 0, .int .i64 0, .int .i64 0, .int .i64 0, .int .i64 0, .int .i64 0] [(0, 1, (.int .i64 22)), (1, 1, (.int .i64 23)), (2, 1, (.int .i64 24)), (3, 1, (.int .i64 25)), (4, 1, (.int .i64 27)), (5, 1, (.int .i64 28)), (6, 1, (.int .i64 29))] 3 7 fun x47_2 h_28 => C h_28 ∧ (
  (sApp h_28 x44 x1 #[.int .i64 0] 3 8 fun x46_1 h_29 => C h_29 ∧ (
  (sApp h_29 x46_1 x47_2 #[.int .i64 0] 3 8 fun x48_3 h_30 => C h_30 ∧ (
  (pen_Apply_c x43 x48_3 h_30 fun x49_4 h_31 => 
  sNew h_31 #[.int .i64 0, .int .i64 0, .int .i64 0] 23 fun x7_5 h_32 => C h_32 ∧ (
  sStN h_32 x7_5 x49_4 3 fun h_33 => 
  betonylaw05_PenReset_j3 R x6 x7_5 h_33)) ∧
  (sNew h_30 #[.int .i64 0, .int .i64 0, .int .i64 0] 23 fun x7_6 h_34 => C h_34 ∧ (
  pen_Apply_c x43 x48_3 h_34 fun x49_5 h_35 => 
  sStN h_35 x7_6 x49_5 3 fun h_36 => 
  betonylaw05_PenReset_j3 R x6 x7_6 h_36)))) ∧
  (sNew h_29 #[.int .i64 0, .int .i64 0, .int .i64 0] 23 fun x7_7 h_37 => C h_37 ∧ (
  sApp h_37 x46_1 x47_2 #[.int .i64 0] 3 8 fun x48_4 h_38 => C h_38 ∧ (
  pen_Apply_c x43 x48_4 h_38 fun x49_6 h_39 => 
  sStN h_39 x7_7 x49_6 3 fun h_40 => 
  betonylaw05_PenReset_j3 R x6 x7_7 h_40))))) ∧
  (sNew h_28 #[.int .i64 0, .int .i64 0, .int .i64 0] 23 fun x7_8 h_41 => C h_41 ∧ (
  sApp h_41 x44 x1 #[.int .i64 0] 3 8 fun x46_2 h_42 => C h_42 ∧ (
  sApp h_42 x46_2 x47_2 #[.int .i64 0] 3 8 fun x48_5 h_43 => C h_43 ∧ (
  pen_Apply_c x43 x48_5 h_43 fun x49_7 h_44 => 
  sStN h_44 x7_8 x49_7 3 fun h_45 => 
  betonylaw05_PenReset_j3 R x6 x7_8 h_45)))))) ∧
  (sNew h_9 #[.int .i64 0, .int .i64 0, .int .i64 0] 23 fun x7_9 h_46 => C h_46 ∧ (
  (sApp h_46 x44 x1 #[.int .i64 0] 3 8 fun x46_3 h_47 => C h_47 ∧ (
  sSlit h_47 #[.int .i64 0, .int .i64 0, .int .i64 0, .int .i64 0, .int .i64 0, .int .i64 0, .int .i64 0] [(0, 1, (.int .i64 22)), (1, 1, (.int .i64 23)), (2, 1, (.int .i64 24)), (3, 1, (.int .i64 25)), (4, 1, (.int .i64 27)), (5, 1, (.int .i64 28)), (6, 1, (.int .i64 29))] 3 7 fun x47_3 h_48 => C h_48 ∧ (
  sApp h_48 x46_3 x47_3 #[.int .i64 0] 3 8 fun x48_6 h_49 => C h_49 ∧ (
  pen_Apply_c x43 x48_6 h_49 fun x49_8 h_50 => 
  sStN h_50 x7_9 x49_8 3 fun h_51 => 
  betonylaw05_PenReset_j3 R x6 x7_9 h_51)))) ∧
  (sSlit h_46 #[.int .i64 0, .int .i64 0, .int .i64 0, .int .i64 0, .int .i64 0, .int .i64 0, .int .i64 0] [(0, 1, (.int .i64 22)), (1, 1, (.int .i64 23)), (2, 1, (.int .i64 24)), (3, 1, (.int .i64 25)), (4, 1, (.int .i64 27)), (5, 1, (.int .i64 28)), (6, 1, (.int .i64 29))] 3 7 fun x47_4 h_52 => C h_52 ∧ (
  sApp h_52 x44 x1 #[.int .i64 0] 3 8 fun x46_4 h_53 => C h_53 ∧ (
  sApp h_53 x46_4 x47_4 #[.int .i64 0] 3 8 fun x48_7 h_54 => C h_54 ∧ (
  pen_Apply_c x43 x48_7 h_54 fun x49_9 h_55 => 
  sStN h_55 x7_9 x49_9 3 fun h_56 => 
  betonylaw05_PenReset_j3 R x6 x7_9 h_56))))))))) ∧
  ((sSlit h_5 #[.int .i64 0, .int .i64 0, .int .i64 0, .int .i64 0, .int .i64 0, .int .i64 0, .int .i64 0] [(0, 1, (.int .i64 22)), (1, 1, (.int .i64 23)), (2, 1, (.int .i64 24)), (3, 1, (.int .i64 25)), (4, 1, (.int .i64 27)), (5, 1, (.int .i64 28)), (6, 1, (.int .i64 29))] 3 7 fun x47_5 h_57 => C h_57 ∧ (
  (sSlit h_57 #[] [] 3 0 fun x44_1 h_58 => C h_58 ∧ (
  (sApp h_58 x44_1 x1 #[.int .i64 0] 3 8 fun x46_5 h_59 => C h_59 ∧ (
  (sApp h_59 x46_5 x47_5 #[.int .i64 0] 3 8 fun x48_8 h_60 => C h_60 ∧ (
  (pen_Apply_c x43 x48_8 h_60 fun x49_10 h_61 => 
  sNew h_61 #[.int .i64 0, .int .i64 0, .int .i64 0] 23 fun x7_10 h_62 => C h_62 ∧ (
  sStN h_62 x7_10 x49_10 3 fun h_63 => 
  betonylaw05_PenReset_j3 R x6 x7_10 h_63)) ∧
  (sNew h_60 #[.int .i64 0, .int .i64 0, .int .i64 0] 23 fun x7_11 h_64 => C h_64 ∧ (
  pen_Apply_c x43 x48_8 h_64 fun x49_11 h_65 => 
  sStN h_65 x7_11 x49_11 3 fun h_66 => 
  betonylaw05_PenReset_j3 R x6 x7_11 h_66)))) ∧
  (sNew h_59 #[.int .i64 0, .int .i64 0, .int .i64 0] 23 fun x7_12 h_67 => C h_67 ∧ (
  sApp h_67 x46_5 x47_5 #[.int .i64 0] 3 8 fun x48_9 h_68 => C h_68 ∧ (
  pen_Apply_c x43 x48_9 h_68 fun x49_12 h_69 => 
  sStN h_69 x7_12 x49_12 3 fun h_70 => 
  betonylaw05_PenReset_j3 R x6 x7_12 h_70))))) ∧
  (sNew h_58 #[.int .i64 0, .int .i64 0, .int .i64 0] 23 fun x7_13 h_71 => C h_71 ∧ (
  sApp h_71 x44_1 x1 #[.int .i64 0] 3 8 fun x46_6 h_72 => C h_72 ∧ (
  sApp h_72 x46_6 x47_5 #[.int .i64 0] 3 8 fun x48_10 h_73 => C h_73 ∧ (
  pen_Apply_c x43 x48_10 h_73 fun x49_13 h_74 => 
  sStN h_74 x7_13 x49_13 3 fun h_75 => 
  betonylaw05_PenReset_j3 R x6 x7_13 h_75)))))) ∧
  (sNew h_57 #[.int .i64 0, .int .i64 0, .int .i64 0] 23 fun x7_14 h_76 => C h_76 ∧ (
  sSlit h_76 #[] [] 3 0 fun x44_2 h_77 => C h_77 ∧ (
  sApp h_77 x44_2 x1 #[.int .i64 0] 3 8 fun x46_7 h_78 => C h_78 ∧ (
  sApp h_78 x46_7 x47_5 #[.int .i64 0] 3 8 fun x48_11 h_79 => C h_79 ∧ (
  pen_Apply_c x43 x48_11 h_79 fun x49_14 h_80 => 
  sStN h_80 x7_14 x49_14 3 fun h_81 => 
  betonylaw05_PenReset_j3 R x6 x7_14 h_81))))))) ∧
  (sNew h_5 #[.int .i64 0, .int .i64 0, .int .i64 0] 23 fun x7_15 h_82 => C h_82 ∧ (
  (sSlit h_82 #[] [] 3 0 fun x44_3 h_83 => C h_83 ∧ (
  (sApp h_83 x44_3 x1 #[.int .i64 0] 3 8 fun x46_8 h_84 => C h_84 ∧ (
  sSlit h_84 #[.int .i64 0, .int .i64 0, .int .i64 0, .int .i64 0, .int .i64 0, .int .i64 0, .int .i64 0] [(0, 1, (.int .i64 22)), (1, 1, (.int .i64 23)), (2, 1, (.int .i64 24)), (3, 1, (.int .i64 25)), (4, 1, (.int .i64 27)), (5, 1, (.int .i64 28)), (6, 1, (.int .i64 29))] 3 7 fun x47_6 h_85 => C h_85 ∧ (
  sApp h_85 x46_8 x47_6 #[.int .i64 0] 3 8 fun x48_12 h_86 => C h_86 ∧ (
  pen_Apply_c x43 x48_12 h_86 fun x49_15 h_87 => 
  sStN h_87 x7_15 x49_15 3 fun h_88 => 
  betonylaw05_PenReset_j3 R x6 x7_15 h_88)))) ∧
  (sSlit h_83 #[.int .i64 0, .int .i64 0, .int .i64 0, .int .i64 0, .int .i64 0, .int .i64 0, .int .i64 0] [(0, 1, (.int .i64 22)), (1, 1, (.int .i64 23)), (2, 1, (.int .i64 24)), (3, 1, (.int .i64 25)), (4, 1, (.int .i64 27)), (5, 1, (.int .i64 28)), (6, 1, (.int .i64 29))] 3 7 fun x47_7 h_89 => C h_89 ∧ (
  sApp h_89 x44_3 x1 #[.int .i64 0] 3 8 fun x46_9 h_90 => C h_90 ∧ (
  sApp h_90 x46_9 x47_7 #[.int .i64 0] 3 8 fun x48_13 h_91 => C h_91 ∧ (
  pen_Apply_c x43 x48_13 h_91 fun x49_16 h_92 => 
  sStN h_92 x7_15 x49_16 3 fun h_93 => 
  betonylaw05_PenReset_j3 R x6 x7_15 h_93)))))) ∧
  (sSlit h_82 #[.int .i64 0, .int .i64 0, .int .i64 0, .int .i64 0, .int .i64 0, .int .i64 0, .int .i64 0] [(0, 1, (.int .i64 22)), (1, 1, (.int .i64 23)), (2, 1, (.int .i64 24)), (3, 1, (.int .i64 25)), (4, 1, (.int .i64 27)), (5, 1, (.int .i64 28)), (6, 1, (.int .i64 29))] 3 7 fun x47_8 h_94 => C h_94 ∧ (
  sSlit h_94 #[] [] 3 0 fun x44_4 h_95 => C h_95 ∧ (
  sApp h_95 x44_4 x1 #[.int .i64 0] 3 8 fun x46_10 h_96 => C h_96 ∧ (
  sApp h_96 x46_10 x47_8 #[.int .i64 0] 3 8 fun x48_14 h_97 => C h_97 ∧ (
  pen_Apply_c x43 x48_14 h_97 fun x49_17 h_98 => 
  sStN h_98 x7_15 x49_17 3 fun h_99 => 
  betonylaw05_PenReset_j3 R x6 x7_15 h_99)))))))))
def betonylaw05_PenReset_l1 (R : Value → Heap → Prop) (x1 x2 : Value) (next : Value → Heap → Prop) (x5 : Value) (h_3 : Heap) : Prop :=
  sLen x1 fun x19 =>
  sLt x5 x19 fun x20 =>
  sIf x20 (sIxS x1 x5 1 fun x25 =>
  sLd h_3 x25 fun x26 =>
  sEq x26 (.int .i64 38) fun x27 =>
  sOr x27 (fun k =>
  sIxS x1 x5 1 fun x31 =>
  sLd h_3 x31 fun x32 =>
  sEq x32 (.int .i64 48) fun x33 =>
  k x33) fun x34 =>
  sIf x34 (betonylaw05_awake_c  h_3 fun x35 h_4 => 
  R x35 h_4) (sAdd .i64 x5 (.int .i64 1) fun x22 =>
  next x22 h_3)) (∃ C_1 : Heap → Prop, C_1 h_3 ∧ (sLdNC C_1 x2 3 fun x36 =>
  (sSlit h_3 #[] [] 3 0 fun x37 h_100 => C_1 h_100 ∧ (
  (sApp h_100 x37 x1 #[.int .i64 0] 3 8 fun x39 h_101 => C_1 h_101 ∧ (
  (sSlit h_101 #[.int .i64 0, .int .i64 0] [(0, 1, (.int .i64 0)), (1, 1, (.int .i64 4))] 3 2 fun x40 h_102 => C_1 h_102 ∧ (
  (sApp h_102 x39 x40 #[.int .i64 0] 3 8 fun x41 h_103 => C_1 h_103 ∧ (
  (pen_Apply_c x36 x41 h_103 fun x42 h_104 => 
  sNew h_104 #[.int .i64 0, .int .i64 0, .int .i64 0] 23 fun x6_1 h_105 => C_1 h_105 ∧ (
  sStN h_105 x6_1 x42 3 fun h_106 => 
  betonylaw05_PenReset_j2 R x1 x2 x6_1 h_106)) ∧
  (sNew h_103 #[.int .i64 0, .int .i64 0, .int .i64 0] 23 fun x6_2 h_107 => C_1 h_107 ∧ (
  pen_Apply_c x36 x41 h_107 fun x42_1 h_108 => 
  sStN h_108 x6_2 x42_1 3 fun h_109 => 
  betonylaw05_PenReset_j2 R x1 x2 x6_2 h_109)))) ∧
  (sNew h_102 #[.int .i64 0, .int .i64 0, .int .i64 0] 23 fun x6_3 h_110 => C_1 h_110 ∧ (
  sApp h_110 x39 x40 #[.int .i64 0] 3 8 fun x41_1 h_111 => C_1 h_111 ∧ (
  pen_Apply_c x36 x41_1 h_111 fun x42_2 h_112 => 
  sStN h_112 x6_3 x42_2 3 fun h_113 => 
  betonylaw05_PenReset_j2 R x1 x2 x6_3 h_113))))) ∧
  (sNew h_101 #[.int .i64 0, .int .i64 0, .int .i64 0] 23 fun x6_4 h_114 => C_1 h_114 ∧ (
  sSlit h_114 #[.int .i64 0, .int .i64 0] [(0, 1, (.int .i64 0)), (1, 1, (.int .i64 4))] 3 2 fun x40_1 h_115 => C_1 h_115 ∧ (
  sApp h_115 x39 x40_1 #[.int .i64 0] 3 8 fun x41_2 h_116 => C_1 h_116 ∧ (
  pen_Apply_c x36 x41_2 h_116 fun x42_3 h_117 => 
  sStN h_117 x6_4 x42_3 3 fun h_118 => 
  betonylaw05_PenReset_j2 R x1 x2 x6_4 h_118)))))) ∧
  ((sSlit h_100 #[.int .i64 0, .int .i64 0] [(0, 1, (.int .i64 0)), (1, 1, (.int .i64 4))] 3 2 fun x40_2 h_119 => C_1 h_119 ∧ (
  (sApp h_119 x37 x1 #[.int .i64 0] 3 8 fun x39_1 h_120 => C_1 h_120 ∧ (
  (sApp h_120 x39_1 x40_2 #[.int .i64 0] 3 8 fun x41_3 h_121 => C_1 h_121 ∧ (
  (pen_Apply_c x36 x41_3 h_121 fun x42_4 h_122 => 
  sNew h_122 #[.int .i64 0, .int .i64 0, .int .i64 0] 23 fun x6_5 h_123 => C_1 h_123 ∧ (
  sStN h_123 x6_5 x42_4 3 fun h_124 => 
  betonylaw05_PenReset_j2 R x1 x2 x6_5 h_124)) ∧
  (sNew h_121 #[.int .i64 0, .int .i64 0, .int .i64 0] 23 fun x6_6 h_125 => C_1 h_125 ∧ (
  pen_Apply_c x36 x41_3 h_125 fun x42_5 h_126 => 
  sStN h_126 x6_6 x42_5 3 fun h_127 => 
  betonylaw05_PenReset_j2 R x1 x2 x6_6 h_127)))) ∧
  (sNew h_120 #[.int .i64 0, .int .i64 0, .int .i64 0] 23 fun x6_7 h_128 => C_1 h_128 ∧ (
  sApp h_128 x39_1 x40_2 #[.int .i64 0] 3 8 fun x41_4 h_129 => C_1 h_129 ∧ (
  pen_Apply_c x36 x41_4 h_129 fun x42_6 h_130 => 
  sStN h_130 x6_7 x42_6 3 fun h_131 => 
  betonylaw05_PenReset_j2 R x1 x2 x6_7 h_131))))) ∧
  (sNew h_119 #[.int .i64 0, .int .i64 0, .int .i64 0] 23 fun x6_8 h_132 => C_1 h_132 ∧ (
  sApp h_132 x37 x1 #[.int .i64 0] 3 8 fun x39_2 h_133 => C_1 h_133 ∧ (
  sApp h_133 x39_2 x40_2 #[.int .i64 0] 3 8 fun x41_5 h_134 => C_1 h_134 ∧ (
  pen_Apply_c x36 x41_5 h_134 fun x42_7 h_135 => 
  sStN h_135 x6_8 x42_7 3 fun h_136 => 
  betonylaw05_PenReset_j2 R x1 x2 x6_8 h_136)))))) ∧
  (sNew h_100 #[.int .i64 0, .int .i64 0, .int .i64 0] 23 fun x6_9 h_137 => C_1 h_137 ∧ (
  (sApp h_137 x37 x1 #[.int .i64 0] 3 8 fun x39_3 h_138 => C_1 h_138 ∧ (
  sSlit h_138 #[.int .i64 0, .int .i64 0] [(0, 1, (.int .i64 0)), (1, 1, (.int .i64 4))] 3 2 fun x40_3 h_139 => C_1 h_139 ∧ (
  sApp h_139 x39_3 x40_3 #[.int .i64 0] 3 8 fun x41_6 h_140 => C_1 h_140 ∧ (
  pen_Apply_c x36 x41_6 h_140 fun x42_8 h_141 => 
  sStN h_141 x6_9 x42_8 3 fun h_142 => 
  betonylaw05_PenReset_j2 R x1 x2 x6_9 h_142)))) ∧
  (sSlit h_137 #[.int .i64 0, .int .i64 0] [(0, 1, (.int .i64 0)), (1, 1, (.int .i64 4))] 3 2 fun x40_4 h_143 => C_1 h_143 ∧ (
  sApp h_143 x37 x1 #[.int .i64 0] 3 8 fun x39_4 h_144 => C_1 h_144 ∧ (
  sApp h_144 x39_4 x40_4 #[.int .i64 0] 3 8 fun x41_7 h_145 => C_1 h_145 ∧ (
  pen_Apply_c x36 x41_7 h_145 fun x42_9 h_146 => 
  sStN h_146 x6_9 x42_9 3 fun h_147 => 
  betonylaw05_PenReset_j2 R x1 x2 x6_9 h_147))))))))) ∧
  ((sSlit h_3 #[.int .i64 0, .int .i64 0] [(0, 1, (.int .i64 0)), (1, 1, (.int .i64 4))] 3 2 fun x40_5 h_148 => C_1 h_148 ∧ (
  (sSlit h_148 #[] [] 3 0 fun x37_1 h_149 => C_1 h_149 ∧ (
  (sApp h_149 x37_1 x1 #[.int .i64 0] 3 8 fun x39_5 h_150 => C_1 h_150 ∧ (
  (sApp h_150 x39_5 x40_5 #[.int .i64 0] 3 8 fun x41_8 h_151 => C_1 h_151 ∧ (
  (pen_Apply_c x36 x41_8 h_151 fun x42_10 h_152 => 
  sNew h_152 #[.int .i64 0, .int .i64 0, .int .i64 0] 23 fun x6_10 h_153 => C_1 h_153 ∧ (
  sStN h_153 x6_10 x42_10 3 fun h_154 => 
  betonylaw05_PenReset_j2 R x1 x2 x6_10 h_154)) ∧
  (sNew h_151 #[.int .i64 0, .int .i64 0, .int .i64 0] 23 fun x6_11 h_155 => C_1 h_155 ∧ (
  pen_Apply_c x36 x41_8 h_155 fun x42_11 h_156 => 
  sStN h_156 x6_11 x42_11 3 fun h_157 => 
  betonylaw05_PenReset_j2 R x1 x2 x6_11 h_157)))) ∧
  (sNew h_150 #[.int .i64 0, .int .i64 0, .int .i64 0] 23 fun x6_12 h_158 => C_1 h_158 ∧ (
  sApp h_158 x39_5 x40_5 #[.int .i64 0] 3 8 fun x41_9 h_159 => C_1 h_159 ∧ (
  pen_Apply_c x36 x41_9 h_159 fun x42_12 h_160 => 
  sStN h_160 x6_12 x42_12 3 fun h_161 => 
  betonylaw05_PenReset_j2 R x1 x2 x6_12 h_161))))) ∧
  (sNew h_149 #[.int .i64 0, .int .i64 0, .int .i64 0] 23 fun x6_13 h_162 => C_1 h_162 ∧ (
  sApp h_162 x37_1 x1 #[.int .i64 0] 3 8 fun x39_6 h_163 => C_1 h_163 ∧ (
  sApp h_163 x39_6 x40_5 #[.int .i64 0] 3 8 fun x41_10 h_164 => C_1 h_164 ∧ (
  pen_Apply_c x36 x41_10 h_164 fun x42_13 h_165 => 
  sStN h_165 x6_13 x42_13 3 fun h_166 => 
  betonylaw05_PenReset_j2 R x1 x2 x6_13 h_166)))))) ∧
  (sNew h_148 #[.int .i64 0, .int .i64 0, .int .i64 0] 23 fun x6_14 h_167 => C_1 h_167 ∧ (
  sSlit h_167 #[] [] 3 0 fun x37_2 h_168 => C_1 h_168 ∧ (
  sApp h_168 x37_2 x1 #[.int .i64 0] 3 8 fun x39_7 h_169 => C_1 h_169 ∧ (
  sApp h_169 x39_7 x40_5 #[.int .i64 0] 3 8 fun x41_11 h_170 => C_1 h_170 ∧ (
  pen_Apply_c x36 x41_11 h_170 fun x42_14 h_171 => 
  sStN h_171 x6_14 x42_14 3 fun h_172 => 
  betonylaw05_PenReset_j2 R x1 x2 x6_14 h_172))))))) ∧
  (sNew h_3 #[.int .i64 0, .int .i64 0, .int .i64 0] 23 fun x6_15 h_173 => C_1 h_173 ∧ (
  (sSlit h_173 #[] [] 3 0 fun x37_3 h_174 => C_1 h_174 ∧ (
  (sApp h_174 x37_3 x1 #[.int .i64 0] 3 8 fun x39_8 h_175 => C_1 h_175 ∧ (
  sSlit h_175 #[.int .i64 0, .int .i64 0] [(0, 1, (.int .i64 0)), (1, 1, (.int .i64 4))] 3 2 fun x40_6 h_176 => C_1 h_176 ∧ (
  sApp h_176 x39_8 x40_6 #[.int .i64 0] 3 8 fun x41_12 h_177 => C_1 h_177 ∧ (
  pen_Apply_c x36 x41_12 h_177 fun x42_15 h_178 => 
  sStN h_178 x6_15 x42_15 3 fun h_179 => 
  betonylaw05_PenReset_j2 R x1 x2 x6_15 h_179)))) ∧
  (sSlit h_174 #[.int .i64 0, .int .i64 0] [(0, 1, (.int .i64 0)), (1, 1, (.int .i64 4))] 3 2 fun x40_7 h_180 => C_1 h_180 ∧ (
  sApp h_180 x37_3 x1 #[.int .i64 0] 3 8 fun x39_9 h_181 => C_1 h_181 ∧ (
  sApp h_181 x39_9 x40_7 #[.int .i64 0] 3 8 fun x41_13 h_182 => C_1 h_182 ∧ (
  pen_Apply_c x36 x41_13 h_182 fun x42_16 h_183 => 
  sStN h_183 x6_15 x42_16 3 fun h_184 => 
  betonylaw05_PenReset_j2 R x1 x2 x6_15 h_184)))))) ∧
  (sSlit h_173 #[.int .i64 0, .int .i64 0] [(0, 1, (.int .i64 0)), (1, 1, (.int .i64 4))] 3 2 fun x40_8 h_185 => C_1 h_185 ∧ (
  sSlit h_185 #[] [] 3 0 fun x37_4 h_186 => C_1 h_186 ∧ (
  sApp h_186 x37_4 x1 #[.int .i64 0] 3 8 fun x39_10 h_187 => C_1 h_187 ∧ (
  sApp h_187 x39_10 x40_8 #[.int .i64 0] 3 8 fun x41_14 h_188 => C_1 h_188 ∧ (
  pen_Apply_c x36 x41_14 h_188 fun x42_17 h_189 => 
  sStN h_189 x6_15 x42_17 3 fun h_190 => 
  betonylaw05_PenReset_j2 R x1 x2 x6_15 h_190))))))))))
def betonylaw05_PenReset_S (x0 x1 : Value) (h : Heap) (R : Value → Heap → Prop) : Prop :=
  sBox h x0 23 fun x2 h => 
  sLen x1 fun x9 =>
  sGt x9 (.int .i64 30) fun x10 =>
  sOrH x10 h (fun k_3 =>
  sLdN h x2 3 fun x12 =>
  pen_Right_c x12 h fun x13 h_191 => 
  sNot x13 fun x14 =>
  k_3 x14 h_191) fun x15 h_1 =>
  sIf x15 (betonylaw05_awake_c  h_1 fun x16 h_2 => 
  R x16 h_2) (sLoop (S := Value) (fun nxt s h => betonylaw05_PenReset_l1 R x1 x2 (fun x5' h => nxt x5' h) s h) (.int .i64 0) h_1)
set_option maxRecDepth 100000 in
theorem betonylaw05_PenReset_runs {x0 x1 : Value} {h : Heap} {R : Value → Heap → Prop} (H : betonylaw05_PenReset_S x0 x1 h R) : betonylaw05_PenReset_c x0 x1 h R := by
  unfold betonylaw05_PenReset_S at H
  refine runs_of (b := ⟨([x0, x1, undef, undef, undef, undef, undef, undef, undef, undef, undef, undef, undef, undef, undef, undef, undef, undef, undef, undef, undef, undef, undef, undef, undef, undef, undef, undef, undef, undef, undef, undef, undef, undef, undef, undef, undef, undef, undef, undef, undef, undef, undef, undef, undef, undef, undef, undef, undef, undef] ++ [undef, undef, undef, undef, undef, undef, undef, undef, undef, undef, undef]).toArray, []⟩) Try.call4 Try.func4 rfl (by kernel_rfl) (fun w0 HA => ?_)
  refine wp_seq ?_
  refine lwp_list ?_
  refine ls_d (d := some 2) (by kernel_rfl) (by kernel_rfl) HA (d_box (by kernel_rfl) H) (fun x2 h w H HA => ?_)
  refine ls_assign (x := (.bool false)) (by kernel_rfl) (by kernel_rfl) ?_
  refine ls_nil ?_
  refine then_normal ?_
  refine fr_eq (b := ⟨([x0, x1, x2, undef, (.bool false), undef, undef, undef, undef, undef, undef, undef, undef, undef, undef, undef, undef, undef, undef, undef, undef, undef, undef, undef, undef, undef, undef, undef, undef, undef, undef, undef, undef, undef, undef, undef, undef, undef, undef, undef, undef, undef, undef, undef, undef, undef, undef, undef, undef, undef] ++ [undef, undef, undef, undef, undef, undef, undef, undef, undef, undef, undef]).toArray, []⟩) (by kernel_rfl) ?_
  refine wp_seq ?_
  refine wp_seq ?_
  refine lwp_list ?_
  refine ls_move (x := x1) (by kernel_rfl) (by kernel_rfl) ?_
  refine ls_p (d := some 9) (by kernel_rfl) (by kernel_rfl) (p_len Try.underlying24 (by kernel_rfl) H) (fun x9 H => ?_)
  refine ls_p (d := some 10) (by kernel_rfl) (by kernel_rfl) (p_sGt (by kernel_rfl) (by kernel_rfl) H) (fun x10 H => ?_)
  refine ls_move (x := x10) (by kernel_rfl) (by kernel_rfl) ?_
  refine ls_orh [(), (), (), ()] (fun K a w => ∃ (D : Nat → Value) (x15 : Value) (h_1 : Heap), a = ⟨([x0, x1, x2, undef, (.bool false), undef, undef, undef, x1, x9, x10, x10, (D 0), (D 1), (D 2), x15, undef, undef, undef, undef, undef, undef, undef, undef, undef, undef, undef, undef, undef, undef, undef, undef, undef, undef, undef, undef, undef, undef, undef, undef, undef, undef, undef, undef, undef, undef, undef, undef, undef, undef] ++ [undef, undef, undef, undef, undef, undef, undef, undef, undef, undef, undef]).toArray, []⟩ ∧ At w0 w h_1 ∧ K x15 h_1) H (fun hb_3 H => ?_) (fun hb_3 H => ?_) ?_
  · refine ls_y (d := some 12) (by kernel_rfl) (by rw [hb_3]; kernel_rfl) HA (y_ldn Try.isAgg23 Try.sizeOf23 (by kernel_rfl) H) (fun x12 H => ?_)
    refine ls_d (d := some 13) (by kernel_rfl) (by rw [hb_3]; kernel_rfl) HA (d_call (by kernel_rfl) (by kernel_rfl) H) (fun x13 h_191 w_195 H HA_195 => ?_)
    refine ls_fr (b := ⟨([x0, x1, x2, undef, (.bool false), undef, undef, undef, x1, x9, x10, x10, x12, x13, undef, undef, undef, undef, undef, undef, undef, undef, undef, undef, undef, undef, undef, undef, undef, undef, undef, undef, undef, undef, undef, undef, undef, undef, undef, undef, undef, undef, undef, undef, undef, undef, undef, undef, undef, undef] ++ [undef, undef, undef, undef, undef, undef, undef, undef, undef, undef, undef]).toArray, []⟩) (by kernel_rfl) ?_
    refine ls_p (d := some 14) (by kernel_rfl) (by rw [hb_3]; kernel_rfl) (p_not (by kernel_rfl) H) (fun x14 H => ?_)
    refine ls_pick_f (y := x14) (by kernel_rfl) (by rw [hb_3]; kernel_rfl) (by kernel_rfl) ?_
    refine ls_nil ?_
    refine then_normal ?_
    exact ⟨(fun i => ([x12, x13, x14]).getD i undef), x14, h_191, by kernel_rfl, HA_195, H⟩
  · refine ls_skip (d := some 12) (by kernel_rfl) (by rw [hb_3]; kernel_rfl) ?_
    refine ls_skip (d := some 13) (by kernel_rfl) (by rw [hb_3]; kernel_rfl) ?_
    refine ls_fr (b := ⟨([x0, x1, x2, undef, (.bool false), undef, undef, undef, x1, x9, x10, x10, undef, undef, undef, undef, undef, undef, undef, undef, undef, undef, undef, undef, undef, undef, undef, undef, undef, undef, undef, undef, undef, undef, undef, undef, undef, undef, undef, undef, undef, undef, undef, undef, undef, undef, undef, undef, undef, undef] ++ [undef, undef, undef, undef, undef, undef, undef, undef, undef, undef, undef]).toArray, []⟩) (by kernel_rfl) ?_
    refine ls_skip (d := some 14) (by kernel_rfl) (by rw [hb_3]; kernel_rfl) ?_
    refine ls_pick_t (x := (.bool true)) (by kernel_rfl) (by rw [hb_3]; kernel_rfl) (by kernel_rfl) ?_
    refine ls_nil ?_
    refine then_normal ?_
    exact ⟨(fun i => ([undef, undef, undef]).getD i undef), (.bool true), h, by kernel_rfl, HA, H⟩
  · rintro _ w_1 ⟨D, x15, h_1, rfl, HA_1, H⟩
    refine ls_nil ?_
    refine then_normal ?_
    refine fr_eq (b := ⟨([x0, x1, x2, undef, (.bool false), undef, undef, undef, x1, x9, x10, x10, (D 0), (D 1), (D 2), x15, undef, undef, undef, undef, undef, undef, undef, undef, undef, undef, undef, undef, undef, undef, undef, undef, undef, undef, undef, undef, undef, undef, undef, undef, undef, undef, undef, undef, undef, undef, undef, undef, undef, undef] ++ [undef, undef, undef, undef, undef, undef, undef, undef, undef, undef, undef]).toArray, []⟩) (by kernel_rfl) ?_
    refine wp_if rfl H (fun H => ?_) (fun H => ?_)
    · refine wp_seq ?_
      refine lwp_list ?_
      refine ls_d (d := some 16) (by kernel_rfl) (by kernel_rfl) HA_1 (d_call (by kernel_rfl) (by kernel_rfl) H) (fun x16 h_2 w_2 H HA_2 => ?_)
      refine ls_assign (x := x16) (by kernel_rfl) (by kernel_rfl) ?_
      refine ls_nil ?_
      refine then_normal ?_
      refine fr_eq (b := ⟨([x0, x1, x2, undef, x16, undef, undef, undef, x1, x9, x10, x10, (D 0), (D 1), (D 2), x15, x16, undef, undef, undef, undef, undef, undef, undef, undef, undef, undef, undef, undef, undef, undef, undef, undef, undef, undef, undef, undef, undef, undef, undef, undef, undef, undef, undef, undef, undef, undef, undef, undef, undef] ++ [undef, undef, undef, undef, undef, undef, undef, undef, undef, undef, undef]).toArray, []⟩) (by kernel_rfl) ?_
      refine wp_ret ?_
      refine then_ret ?_
      exact end1 (Try.results4) (by kernel_rfl) (by kernel_rfl) HA_2 H _ (.inr rfl)
    · refine wp_skip ?_
      refine then_normal ?_
      refine fr_eq (b := ⟨([x0, x1, x2, undef, (.bool false), undef, undef, undef, x1, x9, x10, x10, (D 0), (D 1), (D 2), x15, undef, undef, undef, undef, undef, undef, undef, undef, undef, undef, undef, undef, undef, undef, undef, undef, undef, undef, undef, undef, undef, undef, undef, undef, undef, undef, undef, undef, undef, undef, undef, undef, undef, undef] ++ [undef, undef, undef, undef, undef, undef, undef, undef, undef, undef, undef]).toArray, []⟩) (by kernel_rfl) ?_
      refine wp_seq ?_
      refine wp_seq ?_
      refine lwp_list ?_
      refine ls_assign (x := (.int .i64 0)) (by kernel_rfl) (by kernel_rfl) ?_
      refine ls_nil ?_
      refine then_normal ?_
      refine fr_eq (b := ⟨([x0, x1, x2, undef, (.bool false), (.int .i64 0), undef, undef, x1, x9, x10, x10, (D 0), (D 1), (D 2), x15, undef, undef, undef, undef, undef, undef, undef, undef, undef, undef, undef, undef, undef, undef, undef, undef, undef, undef, undef, undef, undef, undef, undef, undef, undef, undef, undef, undef, undef, undef, undef, undef, undef, undef] ++ [undef, undef, undef, undef, undef, undef, undef, undef, undef, undef, undef]).toArray, []⟩) (by kernel_rfl) ?_
      refine wp_block ?_
      obtain ⟨I, m, H0, HB⟩ := H
      refine wp_loop (fun a w => ∃ (D_1 : Nat → Value) (x5 : Value) (h_3 : Heap), a = ⟨([x0, x1, x2, undef, (D_1 0), x5, undef, undef, x1, x9, x10, x10, (D 0), (D 1), (D 2), x15, undef, (D_1 1), (D_1 2), (D_1 3), (D_1 4), (D_1 5), (D_1 6), (D_1 7), (D_1 8), (D_1 9), (D_1 10), (D_1 11), (D_1 12), (D_1 13), (D_1 14), (D_1 15), (D_1 16), (D_1 17), (D_1 18), (D_1 19), undef, undef, undef, undef, undef, undef, undef, undef, undef, undef, undef, undef, undef, undef] ++ [undef, undef, undef, undef, undef, undef, undef, undef, undef, undef, undef]).toArray, []⟩ ∧ At w0 w h_3 ∧ I x5 h_3) (fun a w => m (a.tmps.getD 5 undef) w.heap) ?_ ?_
      · exact ⟨(fun i => ([(.bool false), undef, undef, undef, undef, undef, undef, undef, undef, undef, undef, undef, undef, undef, undef, undef, undef, undef, undef, undef]).getD i undef), (.int .i64 0), h_1, by kernel_rfl, HA_1, H0⟩
      · rintro _ w_3 ⟨D_1, x5, h_3, rfl, HA_3, HI⟩
        have H : betonylaw05_PenReset_l1 R x1 x2 (fun x5' h' => I x5' h' ∧ m x5' h' < m x5 h_3) x5 h_3 := HB x5 h_3 HI
        clear HB H0 HI
        unfold betonylaw05_PenReset_l1 at H
        refine wp_seq ?_
        refine wp_seq ?_
        refine lwp_list ?_
        refine ls_move (x := x5) (by kernel_rfl) (by kernel_rfl) ?_
        refine ls_move (x := x1) (by kernel_rfl) (by kernel_rfl) ?_
        refine ls_p (d := some 19) (by kernel_rfl) (by kernel_rfl) (p_len Try.underlying24 (by kernel_rfl) H) (fun x19 H => ?_)
        refine ls_p (d := some 20) (by kernel_rfl) (by kernel_rfl) (p_sLt (by kernel_rfl) (by kernel_rfl) H) (fun x20 H => ?_)
        refine ls_nil ?_
        refine then_normal ?_
        refine fr_eq (b := ⟨([x0, x1, x2, undef, (D_1 0), x5, undef, undef, x1, x9, x10, x10, (D 0), (D 1), (D 2), x15, undef, x5, x1, x19, x20, (D_1 5), (D_1 6), (D_1 7), (D_1 8), (D_1 9), (D_1 10), (D_1 11), (D_1 12), (D_1 13), (D_1 14), (D_1 15), (D_1 16), (D_1 17), (D_1 18), (D_1 19), undef, undef, undef, undef, undef, undef, undef, undef, undef, undef, undef, undef, undef, undef] ++ [undef, undef, undef, undef, undef, undef, undef, undef, undef, undef, undef]).toArray, []⟩) (by kernel_rfl) ?_
        refine wp_if rfl H (fun H => ?_) (fun H => ?_)
        · refine wp_skip ?_
          refine then_normal ?_
          refine fr_eq (b := ⟨([x0, x1, x2, undef, (D_1 0), x5, undef, undef, x1, x9, x10, x10, (D 0), (D 1), (D 2), x15, undef, x5, x1, x19, x20, (D_1 5), (D_1 6), (D_1 7), (D_1 8), (D_1 9), (D_1 10), (D_1 11), (D_1 12), (D_1 13), (D_1 14), (D_1 15), (D_1 16), (D_1 17), (D_1 18), (D_1 19), undef, undef, undef, undef, undef, undef, undef, undef, undef, undef, undef, undef, undef, undef] ++ [undef, undef, undef, undef, undef, undef, undef, undef, undef, undef, undef]).toArray, []⟩) (by kernel_rfl) ?_
          refine wp_seq ?_
          refine wp_block ?_
          refine wp_seq ?_
          refine lwp_list ?_
          refine ls_move (x := x1) (by kernel_rfl) (by kernel_rfl) ?_
          refine ls_move (x := x5) (by kernel_rfl) (by kernel_rfl) ?_
          refine ls_p (d := some 25) (by kernel_rfl) (by kernel_rfl) (p_ixs Try.underlying24 Try.sizeOf3 (by kernel_rfl) (by kernel_rfl) H) (fun x25 H => ?_)
          refine ls_y (d := some 26) (by kernel_rfl) (by kernel_rfl) HA_3 (y_ld Try.isAgg3 (by kernel_rfl) H) (fun x26 H => ?_)
          refine ls_p (d := some 27) (by kernel_rfl) (by kernel_rfl) (p_sEq (by kernel_rfl) (by kernel_rfl) H) (fun x27 H => ?_)
          refine ls_move (x := x27) (by kernel_rfl) (by kernel_rfl) ?_
          refine ls_fr (b := ⟨([x0, x1, x2, undef, (D_1 0), x5, undef, undef, x1, x9, x10, x10, (D 0), (D 1), (D 2), x15, undef, x5, x1, x19, x20, (D_1 5), (D_1 6), x1, x5, x25, x26, x27, x27, (D_1 13), (D_1 14), (D_1 15), (D_1 16), (D_1 17), (D_1 18), (D_1 19), undef, undef, undef, undef, undef, undef, undef, undef, undef, undef, undef, undef, undef, undef] ++ [undef, undef, undef, undef, undef, undef, undef, undef, undef, undef, undef]).toArray, []⟩) (by kernel_rfl) ?_
          refine ls_or [(), (), (), (), (), ()] (fun K a w => ∃ (D_2 : Nat → Value) (x34 : Value), a = ⟨([x0, x1, x2, undef, (D_1 0), x5, undef, undef, x1, x9, x10, x10, (D 0), (D 1), (D 2), x15, undef, x5, x1, x19, x20, (D_1 5), (D_1 6), x1, x5, x25, x26, x27, x27, (D_2 0), (D_2 1), (D_2 2), (D_2 3), (D_2 4), x34, (D_1 19), undef, undef, undef, undef, undef, undef, undef, undef, undef, undef, undef, undef, undef, undef] ++ [undef, undef, undef, undef, undef, undef, undef, undef, undef, undef, undef]).toArray, []⟩ ∧ At w0 w h_3 ∧ K x34) H (fun hb H => ?_) (fun hb H => ?_) ?_
          · refine ls_move (x := x1) (by rw [hb]; kernel_rfl) (by kernel_rfl) ?_
            refine ls_move (x := x5) (by rw [hb]; kernel_rfl) (by kernel_rfl) ?_
            refine ls_p (d := some 31) (by kernel_rfl) (by rw [hb]; kernel_rfl) (p_ixs Try.underlying24 Try.sizeOf3 (by kernel_rfl) (by kernel_rfl) H) (fun x31 H => ?_)
            refine ls_y (d := some 32) (by kernel_rfl) (by rw [hb]; kernel_rfl) HA_3 (y_ld Try.isAgg3 (by kernel_rfl) H) (fun x32 H => ?_)
            refine ls_p (d := some 33) (by kernel_rfl) (by rw [hb]; kernel_rfl) (p_sEq (by kernel_rfl) (by kernel_rfl) H) (fun x33 H => ?_)
            refine ls_pick_f (y := x33) (by kernel_rfl) (by rw [hb]; kernel_rfl) (by kernel_rfl) ?_
            refine ls_nil ?_
            refine then_normal ?_
            exact ⟨(fun i => ([x1, x5, x31, x32, x33]).getD i undef), x33, by kernel_rfl, HA_3, H⟩
          · refine ls_skip (d := some 29) (by kernel_rfl) (by rw [hb]; kernel_rfl) ?_
            refine ls_skip (d := some 30) (by kernel_rfl) (by rw [hb]; kernel_rfl) ?_
            refine ls_skip (d := some 31) (by kernel_rfl) (by rw [hb]; kernel_rfl) ?_
            refine ls_skip (d := some 32) (by kernel_rfl) (by rw [hb]; kernel_rfl) ?_
            refine ls_skip (d := some 33) (by kernel_rfl) (by rw [hb]; kernel_rfl) ?_
            refine ls_pick_t (x := (.bool true)) (by kernel_rfl) (by rw [hb]; kernel_rfl) (by kernel_rfl) ?_
            refine ls_nil ?_
            refine then_normal ?_
            exact ⟨(fun i => ([undef, undef, undef, undef, undef]).getD i undef), (.bool true), by kernel_rfl, HA_3, H⟩
          · rintro _ w_4 ⟨D_2, x34, rfl, HA_4, H⟩
            refine ls_nil ?_
            refine then_normal ?_
            refine fr_eq (b := ⟨([x0, x1, x2, undef, (D_1 0), x5, undef, undef, x1, x9, x10, x10, (D 0), (D 1), (D 2), x15, undef, x5, x1, x19, x20, (D_1 5), (D_1 6), x1, x5, x25, x26, x27, x27, (D_2 0), (D_2 1), (D_2 2), (D_2 3), (D_2 4), x34, (D_1 19), undef, undef, undef, undef, undef, undef, undef, undef, undef, undef, undef, undef, undef, undef] ++ [undef, undef, undef, undef, undef, undef, undef, undef, undef, undef, undef]).toArray, []⟩) (by kernel_rfl) ?_
            refine wp_if rfl H (fun H => ?_) (fun H => ?_)
            · refine wp_seq ?_
              refine lwp_list ?_
              refine ls_d (d := some 35) (by kernel_rfl) (by kernel_rfl) HA_4 (d_call (by kernel_rfl) (by kernel_rfl) H) (fun x35 h_4 w_5 H HA_5 => ?_)
              refine ls_assign (x := x35) (by kernel_rfl) (by kernel_rfl) ?_
              refine ls_nil ?_
              refine then_normal ?_
              refine fr_eq (b := ⟨([x0, x1, x2, undef, x35, x5, undef, undef, x1, x9, x10, x10, (D 0), (D 1), (D 2), x15, undef, x5, x1, x19, x20, (D_1 5), (D_1 6), x1, x5, x25, x26, x27, x27, (D_2 0), (D_2 1), (D_2 2), (D_2 3), (D_2 4), x34, x35, undef, undef, undef, undef, undef, undef, undef, undef, undef, undef, undef, undef, undef, undef] ++ [undef, undef, undef, undef, undef, undef, undef, undef, undef, undef, undef]).toArray, []⟩) (by kernel_rfl) ?_
              refine wp_ret ?_
              refine block_ret ?_
              refine then_ret ?_
              refine then_ret ?_
              refine block_ret ?_
              refine then_ret ?_
              exact end1 (Try.results4) (by kernel_rfl) (by kernel_rfl) HA_5 H _ (.inr rfl)
            · refine wp_skip ?_
              refine block_normal ?_
              refine then_normal ?_
              refine fr_eq (b := ⟨([x0, x1, x2, undef, (D_1 0), x5, undef, undef, x1, x9, x10, x10, (D 0), (D 1), (D 2), x15, undef, x5, x1, x19, x20, (D_1 5), (D_1 6), x1, x5, x25, x26, x27, x27, (D_2 0), (D_2 1), (D_2 2), (D_2 3), (D_2 4), x34, (D_1 19), undef, undef, undef, undef, undef, undef, undef, undef, undef, undef, undef, undef, undef, undef] ++ [undef, undef, undef, undef, undef, undef, undef, undef, undef, undef, undef]).toArray, []⟩) (by kernel_rfl) ?_
              refine lwp_list ?_
              refine ls_move (x := x5) (by kernel_rfl) (by kernel_rfl) ?_
              refine ls_p (d := some 22) (by kernel_rfl) (by kernel_rfl) (p_add (by kernel_rfl) (by kernel_rfl) H) (fun x22 H => ?_)
              refine ls_assign (x := x22) (by kernel_rfl) (by kernel_rfl) ?_
              refine ls_nil ?_
              exact ⟨⟨(fun i => ([(D_1 0), x5, x1, x19, x20, x5, x22, x1, x5, x25, x26, x27, x27, (D_2 0), (D_2 1), (D_2 2), (D_2 3), (D_2 4), x34, (D_1 19)]).getD i undef), x22, h_3, by kernel_rfl, HA_4, H.1⟩, loop_lt HA_4.heap HA_3.heap (by kernel_rfl) (by kernel_rfl) H.2⟩
        · refine wp_exit ?_
          refine then_exit ?_
          refine then_exit ?_
          refine block_exit ?_
          refine then_normal ?_
          refine fr_eq (b := ⟨([x0, x1, x2, undef, (D_1 0), x5, undef, undef, x1, x9, x10, x10, (D 0), (D 1), (D 2), x15, undef, x5, x1, x19, x20, (D_1 5), (D_1 6), (D_1 7), (D_1 8), (D_1 9), (D_1 10), (D_1 11), (D_1 12), (D_1 13), (D_1 14), (D_1 15), (D_1 16), (D_1 17), (D_1 18), (D_1 19), undef, undef, undef, undef, undef, undef, undef, undef, undef, undef, undef, undef, undef, undef] ++ [undef, undef, undef, undef, undef, undef, undef, undef, undef, undef, undef]).toArray, []⟩) (by kernel_rfl) ?_
          refine wp_seq ?_
          refine wp_join (fun a w => ∃ (D_3 : Nat → Value) (x6 : Value) (h_5 : Heap), a = ⟨([x0, x1, x2, undef, (D_1 0), x5, x6, undef, x1, x9, x10, x10, (D 0), (D 1), (D 2), x15, undef, x5, x1, x19, x20, (D_1 5), (D_1 6), (D_1 7), (D_1 8), (D_1 9), (D_1 10), (D_1 11), (D_1 12), (D_1 13), (D_1 14), (D_1 15), (D_1 16), (D_1 17), (D_1 18), (D_1 19), (D_3 0), (D_3 1), (D_3 2), (D_3 3), (D_3 4), (D_3 5), (D_3 6), undef, undef, undef, undef, undef, undef, undef] ++ [undef, undef, undef, undef, undef, undef, undef, undef, undef, undef, undef]).toArray, []⟩ ∧ At w0 w h_5 ∧ betonylaw05_PenReset_j2 R x1 x2 x6 h_5) ?_ ?_
          · obtain ⟨C_1, HC, H⟩ := H
            refine lwp_pl (Nat.testBit 506) (Nat.testBit 186) (Nat.testBit 4) [0, 0, 0, 6, 0, 30, 63, 0, 255] C_1 (.op 0 (.op 2 (.alt (.op 1 (.alt (.op 3 (.alt (.op 4 (.alt (.op 5 (.alt (.op 6 (.op 7 (.op 8 .done))) (.op 7 (.op 6 (.op 8 .done))))) (.op 7 (.op 5 (.op 6 (.op 8 .done)))))) (.op 7 (.op 4 (.op 5 (.op 6 (.op 8 .done))))))) (.alt (.op 4 (.alt (.op 3 (.alt (.op 5 (.alt (.op 6 (.op 7 (.op 8 .done))) (.op 7 (.op 6 (.op 8 .done))))) (.op 7 (.op 5 (.op 6 (.op 8 .done)))))) (.op 7 (.op 3 (.op 5 (.op 6 (.op 8 .done))))))) (.op 7 (.alt (.op 3 (.op 4 (.op 5 (.op 6 (.op 8 .done))))) (.op 4 (.op 3 (.op 5 (.op 6 (.op 8 .done)))))))))) (.alt (.op 4 (.alt (.op 1 (.alt (.op 3 (.alt (.op 5 (.alt (.op 6 (.op 7 (.op 8 .done))) (.op 7 (.op 6 (.op 8 .done))))) (.op 7 (.op 5 (.op 6 (.op 8 .done)))))) (.op 7 (.op 3 (.op 5 (.op 6 (.op 8 .done))))))) (.op 7 (.op 1 (.op 3 (.op 5 (.op 6 (.op 8 .done)))))))) (.op 7 (.alt (.op 1 (.alt (.op 3 (.op 4 (.op 5 (.op 6 (.op 8 .done))))) (.op 4 (.op 3 (.op 5 (.op 6 (.op 8 .done))))))) (.op 4 (.op 1 (.op 3 (.op 5 (.op 6 (.op 8 .done)))))))))))) (by kernel_rfl) (by kernel_rfl) HA_3 HC ?_
            intro w_103 HA_103
            refine lp_f (d := some 36) (by kernel_rfl) rfl (by kernel_rfl) (by kernel_rfl) (by kernel_rfl) (c_ldn Try.isAgg23 Try.sizeOf23 (by kernel_rfl) H) (fun x36 H => ?_)
            refine lp_al (x := x1) (d := some 38) (by kernel_rfl) rfl (by kernel_rfl) (by kernel_rfl) (al_move (by kernel_rfl)) ?_
            obtain ⟨Ha, Hb⟩ := H
            refine lp_alt ?_ ?_
            · have H := Ha
              clear Ha Hb
              refine lp_dc (d := some 37) (by kernel_rfl) rfl (by kernel_rfl) (by kernel_rfl) HA_103 (d_slit (zc := #[]) Try.underlying24 Try.sizeOf3 (by decide) (.inl ⟨(by kernel_rfl), (by kernel_rfl)⟩) (by kernel_rfl) (by kernel_rfl) H) (fun x37 h_100 w_104 H HA_104 => ?_)
              obtain ⟨Ha, Hb⟩ := H
              refine lp_alt ?_ ?_
              · have H := Ha
                clear Ha Hb
                refine lp_dc (d := some 39) (by kernel_rfl) rfl (by kernel_rfl) (by kernel_rfl) HA_104 (d_app (z := #[.int .i64 0]) Try.underlying24 Try.underlying24 (.inl ⟨_, rfl⟩) Try.typeInfo3 (by kernel_rfl) Try.sizeOf3 Try.zeroValue3 (by kernel_rfl) (by kernel_rfl) (by kernel_rfl) H) (fun x39 h_101 w_105 H HA_105 => ?_)
                obtain ⟨Ha, Hb⟩ := H
                refine lp_alt ?_ ?_
                · have H := Ha
                  clear Ha Hb
                  refine lp_dc (d := some 40) (by kernel_rfl) rfl (by kernel_rfl) (by kernel_rfl) HA_105 (d_slit (zc := #[.int .i64 0]) Try.underlying24 Try.sizeOf3 (by decide) (.inr ⟨by decide, _, Try.zeroValue3, (by kernel_rfl)⟩) (by kernel_rfl) (by kernel_rfl) H) (fun x40 h_102 w_106 H HA_106 => ?_)
                  obtain ⟨Ha, Hb⟩ := H
                  refine lp_alt ?_ ?_
                  · have H := Ha
                    clear Ha Hb
                    refine lp_dc (d := some 41) (by kernel_rfl) rfl (by kernel_rfl) (by kernel_rfl) HA_106 (d_app (z := #[.int .i64 0]) Try.underlying24 Try.underlying24 (.inl ⟨_, rfl⟩) Try.typeInfo3 (by kernel_rfl) Try.sizeOf3 Try.zeroValue3 (by kernel_rfl) (by kernel_rfl) (by kernel_rfl) H) (fun x41 h_103 w_107 H HA_107 => ?_)
                    refine lp_fr (b := ⟨([x0, x1, x2, undef, (D_1 0), x5, undef, undef, x1, x9, x10, x10, (D 0), (D 1), (D 2), x15, undef, x5, x1, x19, x20, (D_1 5), (D_1 6), (D_1 7), (D_1 8), (D_1 9), (D_1 10), (D_1 11), (D_1 12), (D_1 13), (D_1 14), (D_1 15), (D_1 16), (D_1 17), (D_1 18), (D_1 19), x36, x37, x1, x39, x40, x41, undef, undef, undef, undef, undef, undef, undef, undef] ++ [undef, undef, undef, undef, undef, undef, undef, undef, undef, undef, undef]).toArray, []⟩) (by kernel_rfl) ?_
                    obtain ⟨Ha, Hb⟩ := H
                    refine lp_alt ?_ ?_
                    · have H := Ha
                      clear Ha Hb
                      refine lp_d (d := some 42) (by kernel_rfl) rfl (by kernel_rfl) (by kernel_rfl) (by kernel_rfl) HA_107 (d_call (by kernel_rfl) (by kernel_rfl) H) (fun x42 h_104 w_108 H HA_108 => ?_)
                      refine lp_dc (d := some 6) (by kernel_rfl) rfl (by kernel_rfl) (by kernel_rfl) HA_108 (d_alloc Try.zeroValue23 H) (fun x6_1 h_105 w_109 H HA_109 => ?_)
                      refine lp_d (d := none) (by kernel_rfl) rfl (by kernel_rfl) (by kernel_rfl) (by kernel_rfl) HA_109 (d_stn Try.sizeOf23 (by kernel_rfl) (by kernel_rfl) H) (fun _ h_106 w_110 H HA_110 => ?_)
                      refine lp_nil ?_
                      exact ⟨(fun i => ([x36, x37, x1, x39, x40, x41, x42]).getD i undef), x6_1, h_106, by kernel_rfl, HA_110, H⟩
                    · have H := Hb
                      clear Ha Hb
                      refine lp_dc (d := some 6) (by kernel_rfl) rfl (by kernel_rfl) (by kernel_rfl) HA_107 (d_alloc Try.zeroValue23 H) (fun x6_2 h_107 w_111 H HA_111 => ?_)
                      refine lp_d (d := some 42) (by kernel_rfl) rfl (by kernel_rfl) (by kernel_rfl) (by kernel_rfl) HA_111 (d_call (by kernel_rfl) (by kernel_rfl) H) (fun x42_1 h_108 w_112 H HA_112 => ?_)
                      refine lp_d (d := none) (by kernel_rfl) rfl (by kernel_rfl) (by kernel_rfl) (by kernel_rfl) HA_112 (d_stn Try.sizeOf23 (by kernel_rfl) (by kernel_rfl) H) (fun _ h_109 w_113 H HA_113 => ?_)
                      refine lp_nil ?_
                      exact ⟨(fun i => ([x36, x37, x1, x39, x40, x41, x42_1]).getD i undef), x6_2, h_109, by kernel_rfl, HA_113, H⟩
                  · have H := Hb
                    clear Ha Hb
                    refine lp_dc (d := some 6) (by kernel_rfl) rfl (by kernel_rfl) (by kernel_rfl) HA_106 (d_alloc Try.zeroValue23 H) (fun x6_3 h_110 w_114 H HA_114 => ?_)
                    refine lp_fr (b := ⟨([x0, x1, x2, undef, (D_1 0), x5, x6_3, undef, x1, x9, x10, x10, (D 0), (D 1), (D 2), x15, undef, x5, x1, x19, x20, (D_1 5), (D_1 6), (D_1 7), (D_1 8), (D_1 9), (D_1 10), (D_1 11), (D_1 12), (D_1 13), (D_1 14), (D_1 15), (D_1 16), (D_1 17), (D_1 18), (D_1 19), x36, x37, x1, x39, x40, undef, undef, undef, undef, undef, undef, undef, undef, undef] ++ [undef, undef, undef, undef, undef, undef, undef, undef, undef, undef, undef]).toArray, []⟩) (by kernel_rfl) ?_
                    refine lp_dc (d := some 41) (by kernel_rfl) rfl (by kernel_rfl) (by kernel_rfl) HA_114 (d_app (z := #[.int .i64 0]) Try.underlying24 Try.underlying24 (.inl ⟨_, rfl⟩) Try.typeInfo3 (by kernel_rfl) Try.sizeOf3 Try.zeroValue3 (by kernel_rfl) (by kernel_rfl) (by kernel_rfl) H) (fun x41_1 h_111 w_115 H HA_115 => ?_)
                    refine lp_d (d := some 42) (by kernel_rfl) rfl (by kernel_rfl) (by kernel_rfl) (by kernel_rfl) HA_115 (d_call (by kernel_rfl) (by kernel_rfl) H) (fun x42_2 h_112 w_116 H HA_116 => ?_)
                    refine lp_d (d := none) (by kernel_rfl) rfl (by kernel_rfl) (by kernel_rfl) (by kernel_rfl) HA_116 (d_stn Try.sizeOf23 (by kernel_rfl) (by kernel_rfl) H) (fun _ h_113 w_117 H HA_117 => ?_)
                    refine lp_nil ?_
                    exact ⟨(fun i => ([x36, x37, x1, x39, x40, x41_1, x42_2]).getD i undef), x6_3, h_113, by kernel_rfl, HA_117, H⟩
                · have H := Hb
                  clear Ha Hb
                  refine lp_dc (d := some 6) (by kernel_rfl) rfl (by kernel_rfl) (by kernel_rfl) HA_105 (d_alloc Try.zeroValue23 H) (fun x6_4 h_114 w_118 H HA_118 => ?_)
                  refine lp_dc (d := some 40) (by kernel_rfl) rfl (by kernel_rfl) (by kernel_rfl) HA_118 (d_slit (zc := #[.int .i64 0]) Try.underlying24 Try.sizeOf3 (by decide) (.inr ⟨by decide, _, Try.zeroValue3, (by kernel_rfl)⟩) (by kernel_rfl) (by kernel_rfl) H) (fun x40_1 h_115 w_119 H HA_119 => ?_)
                  refine lp_fr (b := ⟨([x0, x1, x2, undef, (D_1 0), x5, x6_4, undef, x1, x9, x10, x10, (D 0), (D 1), (D 2), x15, undef, x5, x1, x19, x20, (D_1 5), (D_1 6), (D_1 7), (D_1 8), (D_1 9), (D_1 10), (D_1 11), (D_1 12), (D_1 13), (D_1 14), (D_1 15), (D_1 16), (D_1 17), (D_1 18), (D_1 19), x36, x37, x1, x39, x40_1, undef, undef, undef, undef, undef, undef, undef, undef, undef] ++ [undef, undef, undef, undef, undef, undef, undef, undef, undef, undef, undef]).toArray, []⟩) (by kernel_rfl) ?_
                  refine lp_dc (d := some 41) (by kernel_rfl) rfl (by kernel_rfl) (by kernel_rfl) HA_119 (d_app (z := #[.int .i64 0]) Try.underlying24 Try.underlying24 (.inl ⟨_, rfl⟩) Try.typeInfo3 (by kernel_rfl) Try.sizeOf3 Try.zeroValue3 (by kernel_rfl) (by kernel_rfl) (by kernel_rfl) H) (fun x41_2 h_116 w_120 H HA_120 => ?_)
                  refine lp_d (d := some 42) (by kernel_rfl) rfl (by kernel_rfl) (by kernel_rfl) (by kernel_rfl) HA_120 (d_call (by kernel_rfl) (by kernel_rfl) H) (fun x42_3 h_117 w_121 H HA_121 => ?_)
                  refine lp_d (d := none) (by kernel_rfl) rfl (by kernel_rfl) (by kernel_rfl) (by kernel_rfl) HA_121 (d_stn Try.sizeOf23 (by kernel_rfl) (by kernel_rfl) H) (fun _ h_118 w_122 H HA_122 => ?_)
                  refine lp_nil ?_
                  exact ⟨(fun i => ([x36, x37, x1, x39, x40_1, x41_2, x42_3]).getD i undef), x6_4, h_118, by kernel_rfl, HA_122, H⟩
              · have H := Hb
                clear Ha Hb
                obtain ⟨Ha, Hb⟩ := H
                refine lp_alt ?_ ?_
                · have H := Ha
                  clear Ha Hb
                  refine lp_dc (d := some 40) (by kernel_rfl) rfl (by kernel_rfl) (by kernel_rfl) HA_104 (d_slit (zc := #[.int .i64 0]) Try.underlying24 Try.sizeOf3 (by decide) (.inr ⟨by decide, _, Try.zeroValue3, (by kernel_rfl)⟩) (by kernel_rfl) (by kernel_rfl) H) (fun x40_2 h_119 w_123 H HA_123 => ?_)
                  obtain ⟨Ha, Hb⟩ := H
                  refine lp_alt ?_ ?_
                  · have H := Ha
                    clear Ha Hb
                    refine lp_dc (d := some 39) (by kernel_rfl) rfl (by kernel_rfl) (by kernel_rfl) HA_123 (d_app (z := #[.int .i64 0]) Try.underlying24 Try.underlying24 (.inl ⟨_, rfl⟩) Try.typeInfo3 (by kernel_rfl) Try.sizeOf3 Try.zeroValue3 (by kernel_rfl) (by kernel_rfl) (by kernel_rfl) H) (fun x39_1 h_120 w_124 H HA_124 => ?_)
                    obtain ⟨Ha, Hb⟩ := H
                    refine lp_alt ?_ ?_
                    · have H := Ha
                      clear Ha Hb
                      refine lp_dc (d := some 41) (by kernel_rfl) rfl (by kernel_rfl) (by kernel_rfl) HA_124 (d_app (z := #[.int .i64 0]) Try.underlying24 Try.underlying24 (.inl ⟨_, rfl⟩) Try.typeInfo3 (by kernel_rfl) Try.sizeOf3 Try.zeroValue3 (by kernel_rfl) (by kernel_rfl) (by kernel_rfl) H) (fun x41_3 h_121 w_125 H HA_125 => ?_)
                      refine lp_fr (b := ⟨([x0, x1, x2, undef, (D_1 0), x5, undef, undef, x1, x9, x10, x10, (D 0), (D 1), (D 2), x15, undef, x5, x1, x19, x20, (D_1 5), (D_1 6), (D_1 7), (D_1 8), (D_1 9), (D_1 10), (D_1 11), (D_1 12), (D_1 13), (D_1 14), (D_1 15), (D_1 16), (D_1 17), (D_1 18), (D_1 19), x36, x37, x1, x39_1, x40_2, x41_3, undef, undef, undef, undef, undef, undef, undef, undef] ++ [undef, undef, undef, undef, undef, undef, undef, undef, undef, undef, undef]).toArray, []⟩) (by kernel_rfl) ?_
                      obtain ⟨Ha, Hb⟩ := H
                      refine lp_alt ?_ ?_
                      · have H := Ha
                        clear Ha Hb
                        refine lp_d (d := some 42) (by kernel_rfl) rfl (by kernel_rfl) (by kernel_rfl) (by kernel_rfl) HA_125 (d_call (by kernel_rfl) (by kernel_rfl) H) (fun x42_4 h_122 w_126 H HA_126 => ?_)
                        refine lp_dc (d := some 6) (by kernel_rfl) rfl (by kernel_rfl) (by kernel_rfl) HA_126 (d_alloc Try.zeroValue23 H) (fun x6_5 h_123 w_127 H HA_127 => ?_)
                        refine lp_d (d := none) (by kernel_rfl) rfl (by kernel_rfl) (by kernel_rfl) (by kernel_rfl) HA_127 (d_stn Try.sizeOf23 (by kernel_rfl) (by kernel_rfl) H) (fun _ h_124 w_128 H HA_128 => ?_)
                        refine lp_nil ?_
                        exact ⟨(fun i => ([x36, x37, x1, x39_1, x40_2, x41_3, x42_4]).getD i undef), x6_5, h_124, by kernel_rfl, HA_128, H⟩
                      · have H := Hb
                        clear Ha Hb
                        refine lp_dc (d := some 6) (by kernel_rfl) rfl (by kernel_rfl) (by kernel_rfl) HA_125 (d_alloc Try.zeroValue23 H) (fun x6_6 h_125 w_129 H HA_129 => ?_)
                        refine lp_d (d := some 42) (by kernel_rfl) rfl (by kernel_rfl) (by kernel_rfl) (by kernel_rfl) HA_129 (d_call (by kernel_rfl) (by kernel_rfl) H) (fun x42_5 h_126 w_130 H HA_130 => ?_)
                        refine lp_d (d := none) (by kernel_rfl) rfl (by kernel_rfl) (by kernel_rfl) (by kernel_rfl) HA_130 (d_stn Try.sizeOf23 (by kernel_rfl) (by kernel_rfl) H) (fun _ h_127 w_131 H HA_131 => ?_)
                        refine lp_nil ?_
                        exact ⟨(fun i => ([x36, x37, x1, x39_1, x40_2, x41_3, x42_5]).getD i undef), x6_6, h_127, by kernel_rfl, HA_131, H⟩
                    · have H := Hb
                      clear Ha Hb
                      refine lp_dc (d := some 6) (by kernel_rfl) rfl (by kernel_rfl) (by kernel_rfl) HA_124 (d_alloc Try.zeroValue23 H) (fun x6_7 h_128 w_132 H HA_132 => ?_)
                      refine lp_fr (b := ⟨([x0, x1, x2, undef, (D_1 0), x5, x6_7, undef, x1, x9, x10, x10, (D 0), (D 1), (D 2), x15, undef, x5, x1, x19, x20, (D_1 5), (D_1 6), (D_1 7), (D_1 8), (D_1 9), (D_1 10), (D_1 11), (D_1 12), (D_1 13), (D_1 14), (D_1 15), (D_1 16), (D_1 17), (D_1 18), (D_1 19), x36, x37, x1, x39_1, x40_2, undef, undef, undef, undef, undef, undef, undef, undef, undef] ++ [undef, undef, undef, undef, undef, undef, undef, undef, undef, undef, undef]).toArray, []⟩) (by kernel_rfl) ?_
                      refine lp_dc (d := some 41) (by kernel_rfl) rfl (by kernel_rfl) (by kernel_rfl) HA_132 (d_app (z := #[.int .i64 0]) Try.underlying24 Try.underlying24 (.inl ⟨_, rfl⟩) Try.typeInfo3 (by kernel_rfl) Try.sizeOf3 Try.zeroValue3 (by kernel_rfl) (by kernel_rfl) (by kernel_rfl) H) (fun x41_4 h_129 w_133 H HA_133 => ?_)
                      refine lp_d (d := some 42) (by kernel_rfl) rfl (by kernel_rfl) (by kernel_rfl) (by kernel_rfl) HA_133 (d_call (by kernel_rfl) (by kernel_rfl) H) (fun x42_6 h_130 w_134 H HA_134 => ?_)
                      refine lp_d (d := none) (by kernel_rfl) rfl (by kernel_rfl) (by kernel_rfl) (by kernel_rfl) HA_134 (d_stn Try.sizeOf23 (by kernel_rfl) (by kernel_rfl) H) (fun _ h_131 w_135 H HA_135 => ?_)
                      refine lp_nil ?_
                      exact ⟨(fun i => ([x36, x37, x1, x39_1, x40_2, x41_4, x42_6]).getD i undef), x6_7, h_131, by kernel_rfl, HA_135, H⟩
                  · have H := Hb
                    clear Ha Hb
                    refine lp_dc (d := some 6) (by kernel_rfl) rfl (by kernel_rfl) (by kernel_rfl) HA_123 (d_alloc Try.zeroValue23 H) (fun x6_8 h_132 w_136 H HA_136 => ?_)
                    refine lp_dc (d := some 39) (by kernel_rfl) rfl (by kernel_rfl) (by kernel_rfl) HA_136 (d_app (z := #[.int .i64 0]) Try.underlying24 Try.underlying24 (.inl ⟨_, rfl⟩) Try.typeInfo3 (by kernel_rfl) Try.sizeOf3 Try.zeroValue3 (by kernel_rfl) (by kernel_rfl) (by kernel_rfl) H) (fun x39_2 h_133 w_137 H HA_137 => ?_)
                    refine lp_fr (b := ⟨([x0, x1, x2, undef, (D_1 0), x5, x6_8, undef, x1, x9, x10, x10, (D 0), (D 1), (D 2), x15, undef, x5, x1, x19, x20, (D_1 5), (D_1 6), (D_1 7), (D_1 8), (D_1 9), (D_1 10), (D_1 11), (D_1 12), (D_1 13), (D_1 14), (D_1 15), (D_1 16), (D_1 17), (D_1 18), (D_1 19), x36, x37, x1, x39_2, x40_2, undef, undef, undef, undef, undef, undef, undef, undef, undef] ++ [undef, undef, undef, undef, undef, undef, undef, undef, undef, undef, undef]).toArray, []⟩) (by kernel_rfl) ?_
                    refine lp_dc (d := some 41) (by kernel_rfl) rfl (by kernel_rfl) (by kernel_rfl) HA_137 (d_app (z := #[.int .i64 0]) Try.underlying24 Try.underlying24 (.inl ⟨_, rfl⟩) Try.typeInfo3 (by kernel_rfl) Try.sizeOf3 Try.zeroValue3 (by kernel_rfl) (by kernel_rfl) (by kernel_rfl) H) (fun x41_5 h_134 w_138 H HA_138 => ?_)
                    refine lp_d (d := some 42) (by kernel_rfl) rfl (by kernel_rfl) (by kernel_rfl) (by kernel_rfl) HA_138 (d_call (by kernel_rfl) (by kernel_rfl) H) (fun x42_7 h_135 w_139 H HA_139 => ?_)
                    refine lp_d (d := none) (by kernel_rfl) rfl (by kernel_rfl) (by kernel_rfl) (by kernel_rfl) HA_139 (d_stn Try.sizeOf23 (by kernel_rfl) (by kernel_rfl) H) (fun _ h_136 w_140 H HA_140 => ?_)
                    refine lp_nil ?_
                    exact ⟨(fun i => ([x36, x37, x1, x39_2, x40_2, x41_5, x42_7]).getD i undef), x6_8, h_136, by kernel_rfl, HA_140, H⟩
                · have H := Hb
                  clear Ha Hb
                  refine lp_dc (d := some 6) (by kernel_rfl) rfl (by kernel_rfl) (by kernel_rfl) HA_104 (d_alloc Try.zeroValue23 H) (fun x6_9 h_137 w_141 H HA_141 => ?_)
                  obtain ⟨Ha, Hb⟩ := H
                  refine lp_alt ?_ ?_
                  · have H := Ha
                    clear Ha Hb
                    refine lp_dc (d := some 39) (by kernel_rfl) rfl (by kernel_rfl) (by kernel_rfl) HA_141 (d_app (z := #[.int .i64 0]) Try.underlying24 Try.underlying24 (.inl ⟨_, rfl⟩) Try.typeInfo3 (by kernel_rfl) Try.sizeOf3 Try.zeroValue3 (by kernel_rfl) (by kernel_rfl) (by kernel_rfl) H) (fun x39_3 h_138 w_142 H HA_142 => ?_)
                    refine lp_dc (d := some 40) (by kernel_rfl) rfl (by kernel_rfl) (by kernel_rfl) HA_142 (d_slit (zc := #[.int .i64 0]) Try.underlying24 Try.sizeOf3 (by decide) (.inr ⟨by decide, _, Try.zeroValue3, (by kernel_rfl)⟩) (by kernel_rfl) (by kernel_rfl) H) (fun x40_3 h_139 w_143 H HA_143 => ?_)
                    refine lp_fr (b := ⟨([x0, x1, x2, undef, (D_1 0), x5, x6_9, undef, x1, x9, x10, x10, (D 0), (D 1), (D 2), x15, undef, x5, x1, x19, x20, (D_1 5), (D_1 6), (D_1 7), (D_1 8), (D_1 9), (D_1 10), (D_1 11), (D_1 12), (D_1 13), (D_1 14), (D_1 15), (D_1 16), (D_1 17), (D_1 18), (D_1 19), x36, x37, x1, x39_3, x40_3, undef, undef, undef, undef, undef, undef, undef, undef, undef] ++ [undef, undef, undef, undef, undef, undef, undef, undef, undef, undef, undef]).toArray, []⟩) (by kernel_rfl) ?_
                    refine lp_dc (d := some 41) (by kernel_rfl) rfl (by kernel_rfl) (by kernel_rfl) HA_143 (d_app (z := #[.int .i64 0]) Try.underlying24 Try.underlying24 (.inl ⟨_, rfl⟩) Try.typeInfo3 (by kernel_rfl) Try.sizeOf3 Try.zeroValue3 (by kernel_rfl) (by kernel_rfl) (by kernel_rfl) H) (fun x41_6 h_140 w_144 H HA_144 => ?_)
                    refine lp_d (d := some 42) (by kernel_rfl) rfl (by kernel_rfl) (by kernel_rfl) (by kernel_rfl) HA_144 (d_call (by kernel_rfl) (by kernel_rfl) H) (fun x42_8 h_141 w_145 H HA_145 => ?_)
                    refine lp_d (d := none) (by kernel_rfl) rfl (by kernel_rfl) (by kernel_rfl) (by kernel_rfl) HA_145 (d_stn Try.sizeOf23 (by kernel_rfl) (by kernel_rfl) H) (fun _ h_142 w_146 H HA_146 => ?_)
                    refine lp_nil ?_
                    exact ⟨(fun i => ([x36, x37, x1, x39_3, x40_3, x41_6, x42_8]).getD i undef), x6_9, h_142, by kernel_rfl, HA_146, H⟩
                  · have H := Hb
                    clear Ha Hb
                    refine lp_dc (d := some 40) (by kernel_rfl) rfl (by kernel_rfl) (by kernel_rfl) HA_141 (d_slit (zc := #[.int .i64 0]) Try.underlying24 Try.sizeOf3 (by decide) (.inr ⟨by decide, _, Try.zeroValue3, (by kernel_rfl)⟩) (by kernel_rfl) (by kernel_rfl) H) (fun x40_4 h_143 w_147 H HA_147 => ?_)
                    refine lp_dc (d := some 39) (by kernel_rfl) rfl (by kernel_rfl) (by kernel_rfl) HA_147 (d_app (z := #[.int .i64 0]) Try.underlying24 Try.underlying24 (.inl ⟨_, rfl⟩) Try.typeInfo3 (by kernel_rfl) Try.sizeOf3 Try.zeroValue3 (by kernel_rfl) (by kernel_rfl) (by kernel_rfl) H) (fun x39_4 h_144 w_148 H HA_148 => ?_)
                    refine lp_fr (b := ⟨([x0, x1, x2, undef, (D_1 0), x5, x6_9, undef, x1, x9, x10, x10, (D 0), (D 1), (D 2), x15, undef, x5, x1, x19, x20, (D_1 5), (D_1 6), (D_1 7), (D_1 8), (D_1 9), (D_1 10), (D_1 11), (D_1 12), (D_1 13), (D_1 14), (D_1 15), (D_1 16), (D_1 17), (D_1 18), (D_1 19), x36, x37, x1, x39_4, x40_4, undef, undef, undef, undef, undef, undef, undef, undef, undef] ++ [undef, undef, undef, undef, undef, undef, undef, undef, undef, undef, undef]).toArray, []⟩) (by kernel_rfl) ?_
                    refine lp_dc (d := some 41) (by kernel_rfl) rfl (by kernel_rfl) (by kernel_rfl) HA_148 (d_app (z := #[.int .i64 0]) Try.underlying24 Try.underlying24 (.inl ⟨_, rfl⟩) Try.typeInfo3 (by kernel_rfl) Try.sizeOf3 Try.zeroValue3 (by kernel_rfl) (by kernel_rfl) (by kernel_rfl) H) (fun x41_7 h_145 w_149 H HA_149 => ?_)
                    refine lp_d (d := some 42) (by kernel_rfl) rfl (by kernel_rfl) (by kernel_rfl) (by kernel_rfl) HA_149 (d_call (by kernel_rfl) (by kernel_rfl) H) (fun x42_9 h_146 w_150 H HA_150 => ?_)
                    refine lp_d (d := none) (by kernel_rfl) rfl (by kernel_rfl) (by kernel_rfl) (by kernel_rfl) HA_150 (d_stn Try.sizeOf23 (by kernel_rfl) (by kernel_rfl) H) (fun _ h_147 w_151 H HA_151 => ?_)
                    refine lp_nil ?_
                    exact ⟨(fun i => ([x36, x37, x1, x39_4, x40_4, x41_7, x42_9]).getD i undef), x6_9, h_147, by kernel_rfl, HA_151, H⟩
            · have H := Hb
              clear Ha Hb
              obtain ⟨Ha, Hb⟩ := H
              refine lp_alt ?_ ?_
              · have H := Ha
                clear Ha Hb
                refine lp_dc (d := some 40) (by kernel_rfl) rfl (by kernel_rfl) (by kernel_rfl) HA_103 (d_slit (zc := #[.int .i64 0]) Try.underlying24 Try.sizeOf3 (by decide) (.inr ⟨by decide, _, Try.zeroValue3, (by kernel_rfl)⟩) (by kernel_rfl) (by kernel_rfl) H) (fun x40_5 h_148 w_152 H HA_152 => ?_)
                obtain ⟨Ha, Hb⟩ := H
                refine lp_alt ?_ ?_
                · have H := Ha
                  clear Ha Hb
                  refine lp_dc (d := some 37) (by kernel_rfl) rfl (by kernel_rfl) (by kernel_rfl) HA_152 (d_slit (zc := #[]) Try.underlying24 Try.sizeOf3 (by decide) (.inl ⟨(by kernel_rfl), (by kernel_rfl)⟩) (by kernel_rfl) (by kernel_rfl) H) (fun x37_1 h_149 w_153 H HA_153 => ?_)
                  obtain ⟨Ha, Hb⟩ := H
                  refine lp_alt ?_ ?_
                  · have H := Ha
                    clear Ha Hb
                    refine lp_dc (d := some 39) (by kernel_rfl) rfl (by kernel_rfl) (by kernel_rfl) HA_153 (d_app (z := #[.int .i64 0]) Try.underlying24 Try.underlying24 (.inl ⟨_, rfl⟩) Try.typeInfo3 (by kernel_rfl) Try.sizeOf3 Try.zeroValue3 (by kernel_rfl) (by kernel_rfl) (by kernel_rfl) H) (fun x39_5 h_150 w_154 H HA_154 => ?_)
                    obtain ⟨Ha, Hb⟩ := H
                    refine lp_alt ?_ ?_
                    · have H := Ha
                      clear Ha Hb
                      refine lp_dc (d := some 41) (by kernel_rfl) rfl (by kernel_rfl) (by kernel_rfl) HA_154 (d_app (z := #[.int .i64 0]) Try.underlying24 Try.underlying24 (.inl ⟨_, rfl⟩) Try.typeInfo3 (by kernel_rfl) Try.sizeOf3 Try.zeroValue3 (by kernel_rfl) (by kernel_rfl) (by kernel_rfl) H) (fun x41_8 h_151 w_155 H HA_155 => ?_)
                      refine lp_fr (b := ⟨([x0, x1, x2, undef, (D_1 0), x5, undef, undef, x1, x9, x10, x10, (D 0), (D 1), (D 2), x15, undef, x5, x1, x19, x20, (D_1 5), (D_1 6), (D_1 7), (D_1 8), (D_1 9), (D_1 10), (D_1 11), (D_1 12), (D_1 13), (D_1 14), (D_1 15), (D_1 16), (D_1 17), (D_1 18), (D_1 19), x36, x37_1, x1, x39_5, x40_5, x41_8, undef, undef, undef, undef, undef, undef, undef, undef] ++ [undef, undef, undef, undef, undef, undef, undef, undef, undef, undef, undef]).toArray, []⟩) (by kernel_rfl) ?_
                      obtain ⟨Ha, Hb⟩ := H
                      refine lp_alt ?_ ?_
                      · have H := Ha
                        clear Ha Hb
                        refine lp_d (d := some 42) (by kernel_rfl) rfl (by kernel_rfl) (by kernel_rfl) (by kernel_rfl) HA_155 (d_call (by kernel_rfl) (by kernel_rfl) H) (fun x42_10 h_152 w_156 H HA_156 => ?_)
                        refine lp_dc (d := some 6) (by kernel_rfl) rfl (by kernel_rfl) (by kernel_rfl) HA_156 (d_alloc Try.zeroValue23 H) (fun x6_10 h_153 w_157 H HA_157 => ?_)
                        refine lp_d (d := none) (by kernel_rfl) rfl (by kernel_rfl) (by kernel_rfl) (by kernel_rfl) HA_157 (d_stn Try.sizeOf23 (by kernel_rfl) (by kernel_rfl) H) (fun _ h_154 w_158 H HA_158 => ?_)
                        refine lp_nil ?_
                        exact ⟨(fun i => ([x36, x37_1, x1, x39_5, x40_5, x41_8, x42_10]).getD i undef), x6_10, h_154, by kernel_rfl, HA_158, H⟩
                      · have H := Hb
                        clear Ha Hb
                        refine lp_dc (d := some 6) (by kernel_rfl) rfl (by kernel_rfl) (by kernel_rfl) HA_155 (d_alloc Try.zeroValue23 H) (fun x6_11 h_155 w_159 H HA_159 => ?_)
                        refine lp_d (d := some 42) (by kernel_rfl) rfl (by kernel_rfl) (by kernel_rfl) (by kernel_rfl) HA_159 (d_call (by kernel_rfl) (by kernel_rfl) H) (fun x42_11 h_156 w_160 H HA_160 => ?_)
                        refine lp_d (d := none) (by kernel_rfl) rfl (by kernel_rfl) (by kernel_rfl) (by kernel_rfl) HA_160 (d_stn Try.sizeOf23 (by kernel_rfl) (by kernel_rfl) H) (fun _ h_157 w_161 H HA_161 => ?_)
                        refine lp_nil ?_
                        exact ⟨(fun i => ([x36, x37_1, x1, x39_5, x40_5, x41_8, x42_11]).getD i undef), x6_11, h_157, by kernel_rfl, HA_161, H⟩
                    · have H := Hb
                      clear Ha Hb
                      refine lp_dc (d := some 6) (by kernel_rfl) rfl (by kernel_rfl) (by kernel_rfl) HA_154 (d_alloc Try.zeroValue23 H) (fun x6_12 h_158 w_162 H HA_162 => ?_)
                      refine lp_fr (b := ⟨([x0, x1, x2, undef, (D_1 0), x5, x6_12, undef, x1, x9, x10, x10, (D 0), (D 1), (D 2), x15, undef, x5, x1, x19, x20, (D_1 5), (D_1 6), (D_1 7), (D_1 8), (D_1 9), (D_1 10), (D_1 11), (D_1 12), (D_1 13), (D_1 14), (D_1 15), (D_1 16), (D_1 17), (D_1 18), (D_1 19), x36, x37_1, x1, x39_5, x40_5, undef, undef, undef, undef, undef, undef, undef, undef, undef] ++ [undef, undef, undef, undef, undef, undef, undef, undef, undef, undef, undef]).toArray, []⟩) (by kernel_rfl) ?_
                      refine lp_dc (d := some 41) (by kernel_rfl) rfl (by kernel_rfl) (by kernel_rfl) HA_162 (d_app (z := #[.int .i64 0]) Try.underlying24 Try.underlying24 (.inl ⟨_, rfl⟩) Try.typeInfo3 (by kernel_rfl) Try.sizeOf3 Try.zeroValue3 (by kernel_rfl) (by kernel_rfl) (by kernel_rfl) H) (fun x41_9 h_159 w_163 H HA_163 => ?_)
                      refine lp_d (d := some 42) (by kernel_rfl) rfl (by kernel_rfl) (by kernel_rfl) (by kernel_rfl) HA_163 (d_call (by kernel_rfl) (by kernel_rfl) H) (fun x42_12 h_160 w_164 H HA_164 => ?_)
                      refine lp_d (d := none) (by kernel_rfl) rfl (by kernel_rfl) (by kernel_rfl) (by kernel_rfl) HA_164 (d_stn Try.sizeOf23 (by kernel_rfl) (by kernel_rfl) H) (fun _ h_161 w_165 H HA_165 => ?_)
                      refine lp_nil ?_
                      exact ⟨(fun i => ([x36, x37_1, x1, x39_5, x40_5, x41_9, x42_12]).getD i undef), x6_12, h_161, by kernel_rfl, HA_165, H⟩
                  · have H := Hb
                    clear Ha Hb
                    refine lp_dc (d := some 6) (by kernel_rfl) rfl (by kernel_rfl) (by kernel_rfl) HA_153 (d_alloc Try.zeroValue23 H) (fun x6_13 h_162 w_166 H HA_166 => ?_)
                    refine lp_dc (d := some 39) (by kernel_rfl) rfl (by kernel_rfl) (by kernel_rfl) HA_166 (d_app (z := #[.int .i64 0]) Try.underlying24 Try.underlying24 (.inl ⟨_, rfl⟩) Try.typeInfo3 (by kernel_rfl) Try.sizeOf3 Try.zeroValue3 (by kernel_rfl) (by kernel_rfl) (by kernel_rfl) H) (fun x39_6 h_163 w_167 H HA_167 => ?_)
                    refine lp_fr (b := ⟨([x0, x1, x2, undef, (D_1 0), x5, x6_13, undef, x1, x9, x10, x10, (D 0), (D 1), (D 2), x15, undef, x5, x1, x19, x20, (D_1 5), (D_1 6), (D_1 7), (D_1 8), (D_1 9), (D_1 10), (D_1 11), (D_1 12), (D_1 13), (D_1 14), (D_1 15), (D_1 16), (D_1 17), (D_1 18), (D_1 19), x36, x37_1, x1, x39_6, x40_5, undef, undef, undef, undef, undef, undef, undef, undef, undef] ++ [undef, undef, undef, undef, undef, undef, undef, undef, undef, undef, undef]).toArray, []⟩) (by kernel_rfl) ?_
                    refine lp_dc (d := some 41) (by kernel_rfl) rfl (by kernel_rfl) (by kernel_rfl) HA_167 (d_app (z := #[.int .i64 0]) Try.underlying24 Try.underlying24 (.inl ⟨_, rfl⟩) Try.typeInfo3 (by kernel_rfl) Try.sizeOf3 Try.zeroValue3 (by kernel_rfl) (by kernel_rfl) (by kernel_rfl) H) (fun x41_10 h_164 w_168 H HA_168 => ?_)
                    refine lp_d (d := some 42) (by kernel_rfl) rfl (by kernel_rfl) (by kernel_rfl) (by kernel_rfl) HA_168 (d_call (by kernel_rfl) (by kernel_rfl) H) (fun x42_13 h_165 w_169 H HA_169 => ?_)
                    refine lp_d (d := none) (by kernel_rfl) rfl (by kernel_rfl) (by kernel_rfl) (by kernel_rfl) HA_169 (d_stn Try.sizeOf23 (by kernel_rfl) (by kernel_rfl) H) (fun _ h_166 w_170 H HA_170 => ?_)
                    refine lp_nil ?_
                    exact ⟨(fun i => ([x36, x37_1, x1, x39_6, x40_5, x41_10, x42_13]).getD i undef), x6_13, h_166, by kernel_rfl, HA_170, H⟩
                · have H := Hb
                  clear Ha Hb
                  refine lp_dc (d := some 6) (by kernel_rfl) rfl (by kernel_rfl) (by kernel_rfl) HA_152 (d_alloc Try.zeroValue23 H) (fun x6_14 h_167 w_171 H HA_171 => ?_)
                  refine lp_dc (d := some 37) (by kernel_rfl) rfl (by kernel_rfl) (by kernel_rfl) HA_171 (d_slit (zc := #[]) Try.underlying24 Try.sizeOf3 (by decide) (.inl ⟨(by kernel_rfl), (by kernel_rfl)⟩) (by kernel_rfl) (by kernel_rfl) H) (fun x37_2 h_168 w_172 H HA_172 => ?_)
                  refine lp_dc (d := some 39) (by kernel_rfl) rfl (by kernel_rfl) (by kernel_rfl) HA_172 (d_app (z := #[.int .i64 0]) Try.underlying24 Try.underlying24 (.inl ⟨_, rfl⟩) Try.typeInfo3 (by kernel_rfl) Try.sizeOf3 Try.zeroValue3 (by kernel_rfl) (by kernel_rfl) (by kernel_rfl) H) (fun x39_7 h_169 w_173 H HA_173 => ?_)
                  refine lp_fr (b := ⟨([x0, x1, x2, undef, (D_1 0), x5, x6_14, undef, x1, x9, x10, x10, (D 0), (D 1), (D 2), x15, undef, x5, x1, x19, x20, (D_1 5), (D_1 6), (D_1 7), (D_1 8), (D_1 9), (D_1 10), (D_1 11), (D_1 12), (D_1 13), (D_1 14), (D_1 15), (D_1 16), (D_1 17), (D_1 18), (D_1 19), x36, x37_2, x1, x39_7, x40_5, undef, undef, undef, undef, undef, undef, undef, undef, undef] ++ [undef, undef, undef, undef, undef, undef, undef, undef, undef, undef, undef]).toArray, []⟩) (by kernel_rfl) ?_
                  refine lp_dc (d := some 41) (by kernel_rfl) rfl (by kernel_rfl) (by kernel_rfl) HA_173 (d_app (z := #[.int .i64 0]) Try.underlying24 Try.underlying24 (.inl ⟨_, rfl⟩) Try.typeInfo3 (by kernel_rfl) Try.sizeOf3 Try.zeroValue3 (by kernel_rfl) (by kernel_rfl) (by kernel_rfl) H) (fun x41_11 h_170 w_174 H HA_174 => ?_)
                  refine lp_d (d := some 42) (by kernel_rfl) rfl (by kernel_rfl) (by kernel_rfl) (by kernel_rfl) HA_174 (d_call (by kernel_rfl) (by kernel_rfl) H) (fun x42_14 h_171 w_175 H HA_175 => ?_)
                  refine lp_d (d := none) (by kernel_rfl) rfl (by kernel_rfl) (by kernel_rfl) (by kernel_rfl) HA_175 (d_stn Try.sizeOf23 (by kernel_rfl) (by kernel_rfl) H) (fun _ h_172 w_176 H HA_176 => ?_)
                  refine lp_nil ?_
                  exact ⟨(fun i => ([x36, x37_2, x1, x39_7, x40_5, x41_11, x42_14]).getD i undef), x6_14, h_172, by kernel_rfl, HA_176, H⟩
              · have H := Hb
                clear Ha Hb
                refine lp_dc (d := some 6) (by kernel_rfl) rfl (by kernel_rfl) (by kernel_rfl) HA_103 (d_alloc Try.zeroValue23 H) (fun x6_15 h_173 w_177 H HA_177 => ?_)
                obtain ⟨Ha, Hb⟩ := H
                refine lp_alt ?_ ?_
                · have H := Ha
                  clear Ha Hb
                  refine lp_dc (d := some 37) (by kernel_rfl) rfl (by kernel_rfl) (by kernel_rfl) HA_177 (d_slit (zc := #[]) Try.underlying24 Try.sizeOf3 (by decide) (.inl ⟨(by kernel_rfl), (by kernel_rfl)⟩) (by kernel_rfl) (by kernel_rfl) H) (fun x37_3 h_174 w_178 H HA_178 => ?_)
                  obtain ⟨Ha, Hb⟩ := H
                  refine lp_alt ?_ ?_
                  · have H := Ha
                    clear Ha Hb
                    refine lp_dc (d := some 39) (by kernel_rfl) rfl (by kernel_rfl) (by kernel_rfl) HA_178 (d_app (z := #[.int .i64 0]) Try.underlying24 Try.underlying24 (.inl ⟨_, rfl⟩) Try.typeInfo3 (by kernel_rfl) Try.sizeOf3 Try.zeroValue3 (by kernel_rfl) (by kernel_rfl) (by kernel_rfl) H) (fun x39_8 h_175 w_179 H HA_179 => ?_)
                    refine lp_dc (d := some 40) (by kernel_rfl) rfl (by kernel_rfl) (by kernel_rfl) HA_179 (d_slit (zc := #[.int .i64 0]) Try.underlying24 Try.sizeOf3 (by decide) (.inr ⟨by decide, _, Try.zeroValue3, (by kernel_rfl)⟩) (by kernel_rfl) (by kernel_rfl) H) (fun x40_6 h_176 w_180 H HA_180 => ?_)
                    refine lp_fr (b := ⟨([x0, x1, x2, undef, (D_1 0), x5, x6_15, undef, x1, x9, x10, x10, (D 0), (D 1), (D 2), x15, undef, x5, x1, x19, x20, (D_1 5), (D_1 6), (D_1 7), (D_1 8), (D_1 9), (D_1 10), (D_1 11), (D_1 12), (D_1 13), (D_1 14), (D_1 15), (D_1 16), (D_1 17), (D_1 18), (D_1 19), x36, x37_3, x1, x39_8, x40_6, undef, undef, undef, undef, undef, undef, undef, undef, undef] ++ [undef, undef, undef, undef, undef, undef, undef, undef, undef, undef, undef]).toArray, []⟩) (by kernel_rfl) ?_
                    refine lp_dc (d := some 41) (by kernel_rfl) rfl (by kernel_rfl) (by kernel_rfl) HA_180 (d_app (z := #[.int .i64 0]) Try.underlying24 Try.underlying24 (.inl ⟨_, rfl⟩) Try.typeInfo3 (by kernel_rfl) Try.sizeOf3 Try.zeroValue3 (by kernel_rfl) (by kernel_rfl) (by kernel_rfl) H) (fun x41_12 h_177 w_181 H HA_181 => ?_)
                    refine lp_d (d := some 42) (by kernel_rfl) rfl (by kernel_rfl) (by kernel_rfl) (by kernel_rfl) HA_181 (d_call (by kernel_rfl) (by kernel_rfl) H) (fun x42_15 h_178 w_182 H HA_182 => ?_)
                    refine lp_d (d := none) (by kernel_rfl) rfl (by kernel_rfl) (by kernel_rfl) (by kernel_rfl) HA_182 (d_stn Try.sizeOf23 (by kernel_rfl) (by kernel_rfl) H) (fun _ h_179 w_183 H HA_183 => ?_)
                    refine lp_nil ?_
                    exact ⟨(fun i => ([x36, x37_3, x1, x39_8, x40_6, x41_12, x42_15]).getD i undef), x6_15, h_179, by kernel_rfl, HA_183, H⟩
                  · have H := Hb
                    clear Ha Hb
                    refine lp_dc (d := some 40) (by kernel_rfl) rfl (by kernel_rfl) (by kernel_rfl) HA_178 (d_slit (zc := #[.int .i64 0]) Try.underlying24 Try.sizeOf3 (by decide) (.inr ⟨by decide, _, Try.zeroValue3, (by kernel_rfl)⟩) (by kernel_rfl) (by kernel_rfl) H) (fun x40_7 h_180 w_184 H HA_184 => ?_)
                    refine lp_dc (d := some 39) (by kernel_rfl) rfl (by kernel_rfl) (by kernel_rfl) HA_184 (d_app (z := #[.int .i64 0]) Try.underlying24 Try.underlying24 (.inl ⟨_, rfl⟩) Try.typeInfo3 (by kernel_rfl) Try.sizeOf3 Try.zeroValue3 (by kernel_rfl) (by kernel_rfl) (by kernel_rfl) H) (fun x39_9 h_181 w_185 H HA_185 => ?_)
                    refine lp_fr (b := ⟨([x0, x1, x2, undef, (D_1 0), x5, x6_15, undef, x1, x9, x10, x10, (D 0), (D 1), (D 2), x15, undef, x5, x1, x19, x20, (D_1 5), (D_1 6), (D_1 7), (D_1 8), (D_1 9), (D_1 10), (D_1 11), (D_1 12), (D_1 13), (D_1 14), (D_1 15), (D_1 16), (D_1 17), (D_1 18), (D_1 19), x36, x37_3, x1, x39_9, x40_7, undef, undef, undef, undef, undef, undef, undef, undef, undef] ++ [undef, undef, undef, undef, undef, undef, undef, undef, undef, undef, undef]).toArray, []⟩) (by kernel_rfl) ?_
                    refine lp_dc (d := some 41) (by kernel_rfl) rfl (by kernel_rfl) (by kernel_rfl) HA_185 (d_app (z := #[.int .i64 0]) Try.underlying24 Try.underlying24 (.inl ⟨_, rfl⟩) Try.typeInfo3 (by kernel_rfl) Try.sizeOf3 Try.zeroValue3 (by kernel_rfl) (by kernel_rfl) (by kernel_rfl) H) (fun x41_13 h_182 w_186 H HA_186 => ?_)
                    refine lp_d (d := some 42) (by kernel_rfl) rfl (by kernel_rfl) (by kernel_rfl) (by kernel_rfl) HA_186 (d_call (by kernel_rfl) (by kernel_rfl) H) (fun x42_16 h_183 w_187 H HA_187 => ?_)
                    refine lp_d (d := none) (by kernel_rfl) rfl (by kernel_rfl) (by kernel_rfl) (by kernel_rfl) HA_187 (d_stn Try.sizeOf23 (by kernel_rfl) (by kernel_rfl) H) (fun _ h_184 w_188 H HA_188 => ?_)
                    refine lp_nil ?_
                    exact ⟨(fun i => ([x36, x37_3, x1, x39_9, x40_7, x41_13, x42_16]).getD i undef), x6_15, h_184, by kernel_rfl, HA_188, H⟩
                · have H := Hb
                  clear Ha Hb
                  refine lp_dc (d := some 40) (by kernel_rfl) rfl (by kernel_rfl) (by kernel_rfl) HA_177 (d_slit (zc := #[.int .i64 0]) Try.underlying24 Try.sizeOf3 (by decide) (.inr ⟨by decide, _, Try.zeroValue3, (by kernel_rfl)⟩) (by kernel_rfl) (by kernel_rfl) H) (fun x40_8 h_185 w_189 H HA_189 => ?_)
                  refine lp_dc (d := some 37) (by kernel_rfl) rfl (by kernel_rfl) (by kernel_rfl) HA_189 (d_slit (zc := #[]) Try.underlying24 Try.sizeOf3 (by decide) (.inl ⟨(by kernel_rfl), (by kernel_rfl)⟩) (by kernel_rfl) (by kernel_rfl) H) (fun x37_4 h_186 w_190 H HA_190 => ?_)
                  refine lp_dc (d := some 39) (by kernel_rfl) rfl (by kernel_rfl) (by kernel_rfl) HA_190 (d_app (z := #[.int .i64 0]) Try.underlying24 Try.underlying24 (.inl ⟨_, rfl⟩) Try.typeInfo3 (by kernel_rfl) Try.sizeOf3 Try.zeroValue3 (by kernel_rfl) (by kernel_rfl) (by kernel_rfl) H) (fun x39_10 h_187 w_191 H HA_191 => ?_)
                  refine lp_fr (b := ⟨([x0, x1, x2, undef, (D_1 0), x5, x6_15, undef, x1, x9, x10, x10, (D 0), (D 1), (D 2), x15, undef, x5, x1, x19, x20, (D_1 5), (D_1 6), (D_1 7), (D_1 8), (D_1 9), (D_1 10), (D_1 11), (D_1 12), (D_1 13), (D_1 14), (D_1 15), (D_1 16), (D_1 17), (D_1 18), (D_1 19), x36, x37_4, x1, x39_10, x40_8, undef, undef, undef, undef, undef, undef, undef, undef, undef] ++ [undef, undef, undef, undef, undef, undef, undef, undef, undef, undef, undef]).toArray, []⟩) (by kernel_rfl) ?_
                  refine lp_dc (d := some 41) (by kernel_rfl) rfl (by kernel_rfl) (by kernel_rfl) HA_191 (d_app (z := #[.int .i64 0]) Try.underlying24 Try.underlying24 (.inl ⟨_, rfl⟩) Try.typeInfo3 (by kernel_rfl) Try.sizeOf3 Try.zeroValue3 (by kernel_rfl) (by kernel_rfl) (by kernel_rfl) H) (fun x41_14 h_188 w_192 H HA_192 => ?_)
                  refine lp_d (d := some 42) (by kernel_rfl) rfl (by kernel_rfl) (by kernel_rfl) (by kernel_rfl) HA_192 (d_call (by kernel_rfl) (by kernel_rfl) H) (fun x42_17 h_189 w_193 H HA_193 => ?_)
                  refine lp_d (d := none) (by kernel_rfl) rfl (by kernel_rfl) (by kernel_rfl) (by kernel_rfl) HA_193 (d_stn Try.sizeOf23 (by kernel_rfl) (by kernel_rfl) H) (fun _ h_190 w_194 H HA_194 => ?_)
                  refine lp_nil ?_
                  exact ⟨(fun i => ([x36, x37_4, x1, x39_10, x40_8, x41_14, x42_17]).getD i undef), x6_15, h_190, by kernel_rfl, HA_194, H⟩
          · rintro _ w_6 ⟨D_3, x6, h_5, rfl, HA_6, H⟩
            unfold betonylaw05_PenReset_j2 at H
            refine then_normal ?_
            refine fr_eq (b := ⟨([x0, x1, x2, undef, (D_1 0), x5, x6, undef, x1, x9, x10, x10, (D 0), (D 1), (D 2), x15, undef, x5, x1, x19, x20, (D_1 5), (D_1 6), (D_1 7), (D_1 8), (D_1 9), (D_1 10), (D_1 11), (D_1 12), (D_1 13), (D_1 14), (D_1 15), (D_1 16), (D_1 17), (D_1 18), (D_1 19), (D_3 0), (D_3 1), (D_3 2), (D_3 3), (D_3 4), (D_3 5), (D_3 6), undef, undef, undef, undef, undef, undef, undef] ++ [undef, undef, undef, undef, undef, undef, undef, undef, undef, undef, undef]).toArray, []⟩) (by kernel_rfl) ?_
            refine wp_seq ?_
            refine wp_join (fun a w => ∃ (D_4 : Nat → Value) (x7 : Value) (h_6 : Heap), a = ⟨([x0, x1, x2, undef, (D_1 0), x5, x6, x7, x1, x9, x10, x10, (D 0), (D 1), (D 2), x15, undef, x5, x1, x19, x20, (D_1 5), (D_1 6), (D_1 7), (D_1 8), (D_1 9), (D_1 10), (D_1 11), (D_1 12), (D_1 13), (D_1 14), (D_1 15), (D_1 16), (D_1 17), (D_1 18), (D_1 19), (D_3 0), (D_3 1), (D_3 2), (D_3 3), (D_3 4), (D_3 5), (D_3 6), (D_4 0), (D_4 1), (D_4 2), (D_4 3), (D_4 4), (D_4 5), (D_4 6)] ++ [undef, undef, undef, undef, undef, undef, undef, undef, undef, undef, undef]).toArray, []⟩ ∧ At w0 w h_6 ∧ betonylaw05_PenReset_j3 R x6 x7 h_6) ?_ ?_
            · obtain ⟨C, HC, H⟩ := H
              refine lwp_pl (Nat.testBit 506) (Nat.testBit 186) (Nat.testBit 4) [0, 0, 0, 6, 0, 30, 63, 0, 255] C (.op 0 (.op 2 (.alt (.op 1 (.alt (.op 3 (.alt (.op 4 (.alt (.op 5 (.alt (.op 6 (.op 7 (.op 8 .done))) (.op 7 (.op 6 (.op 8 .done))))) (.op 7 (.op 5 (.op 6 (.op 8 .done)))))) (.op 7 (.op 4 (.op 5 (.op 6 (.op 8 .done))))))) (.alt (.op 4 (.alt (.op 3 (.alt (.op 5 (.alt (.op 6 (.op 7 (.op 8 .done))) (.op 7 (.op 6 (.op 8 .done))))) (.op 7 (.op 5 (.op 6 (.op 8 .done)))))) (.op 7 (.op 3 (.op 5 (.op 6 (.op 8 .done))))))) (.op 7 (.alt (.op 3 (.op 4 (.op 5 (.op 6 (.op 8 .done))))) (.op 4 (.op 3 (.op 5 (.op 6 (.op 8 .done)))))))))) (.alt (.op 4 (.alt (.op 1 (.alt (.op 3 (.alt (.op 5 (.alt (.op 6 (.op 7 (.op 8 .done))) (.op 7 (.op 6 (.op 8 .done))))) (.op 7 (.op 5 (.op 6 (.op 8 .done)))))) (.op 7 (.op 3 (.op 5 (.op 6 (.op 8 .done))))))) (.op 7 (.op 1 (.op 3 (.op 5 (.op 6 (.op 8 .done)))))))) (.op 7 (.alt (.op 1 (.alt (.op 3 (.op 4 (.op 5 (.op 6 (.op 8 .done))))) (.op 4 (.op 3 (.op 5 (.op 6 (.op 8 .done))))))) (.op 4 (.op 1 (.op 3 (.op 5 (.op 6 (.op 8 .done)))))))))))) (by kernel_rfl) (by kernel_rfl) HA_6 HC ?_
              intro w_11 HA_11
              refine lp_f (d := some 43) (by kernel_rfl) rfl (by kernel_rfl) (by kernel_rfl) (by kernel_rfl) (c_ldn Try.isAgg23 Try.sizeOf23 (by kernel_rfl) H) (fun x43 H => ?_)
              refine lp_al (x := x1) (d := some 45) (by kernel_rfl) rfl (by kernel_rfl) (by kernel_rfl) (al_move (by kernel_rfl)) ?_
              obtain ⟨Ha, Hb⟩ := H
              refine lp_alt ?_ ?_
              · have H := Ha
                clear Ha Hb
                refine lp_dc (d := some 44) (by kernel_rfl) rfl (by kernel_rfl) (by kernel_rfl) HA_11 (d_slit (zc := #[]) Try.underlying24 Try.sizeOf3 (by decide) (.inl ⟨(by kernel_rfl), (by kernel_rfl)⟩) (by kernel_rfl) (by kernel_rfl) H) (fun x44 h_9 w_12 H HA_12 => ?_)
                obtain ⟨Ha, Hb⟩ := H
                refine lp_alt ?_ ?_
                · have H := Ha
                  clear Ha Hb
                  refine lp_dc (d := some 46) (by kernel_rfl) rfl (by kernel_rfl) (by kernel_rfl) HA_12 (d_app (z := #[.int .i64 0]) Try.underlying24 Try.underlying24 (.inl ⟨_, rfl⟩) Try.typeInfo3 (by kernel_rfl) Try.sizeOf3 Try.zeroValue3 (by kernel_rfl) (by kernel_rfl) (by kernel_rfl) H) (fun x46 h_10 w_13 H HA_13 => ?_)
                  obtain ⟨Ha, Hb⟩ := H
                  refine lp_alt ?_ ?_
                  · have H := Ha
                    clear Ha Hb
                    refine lp_dc (d := some 47) (by kernel_rfl) rfl (by kernel_rfl) (by kernel_rfl) HA_13 (d_slit (zc := #[.int .i64 0]) Try.underlying24 Try.sizeOf3 (by decide) (.inr ⟨by decide, _, Try.zeroValue3, (by kernel_rfl)⟩) (by kernel_rfl) (by kernel_rfl) H) (fun x47 h_11 w_14 H HA_14 => ?_)
                    obtain ⟨Ha, Hb⟩ := H
                    refine lp_alt ?_ ?_
                    · have H := Ha
                      clear Ha Hb
                      refine lp_dc (d := some 48) (by kernel_rfl) rfl (by kernel_rfl) (by kernel_rfl) HA_14 (d_app (z := #[.int .i64 0]) Try.underlying24 Try.underlying24 (.inl ⟨_, rfl⟩) Try.typeInfo3 (by kernel_rfl) Try.sizeOf3 Try.zeroValue3 (by kernel_rfl) (by kernel_rfl) (by kernel_rfl) H) (fun x48 h_12 w_15 H HA_15 => ?_)
                      refine lp_fr (b := ⟨([x0, x1, x2, undef, (D_1 0), x5, x6, undef, x1, x9, x10, x10, (D 0), (D 1), (D 2), x15, undef, x5, x1, x19, x20, (D_1 5), (D_1 6), (D_1 7), (D_1 8), (D_1 9), (D_1 10), (D_1 11), (D_1 12), (D_1 13), (D_1 14), (D_1 15), (D_1 16), (D_1 17), (D_1 18), (D_1 19), (D_3 0), (D_3 1), (D_3 2), (D_3 3), (D_3 4), (D_3 5), (D_3 6), x43, x44, x1, x46, x47, x48, undef] ++ [undef, undef, undef, undef, undef, undef, undef, undef, undef, undef, undef]).toArray, []⟩) (by kernel_rfl) ?_
                      obtain ⟨Ha, Hb⟩ := H
                      refine lp_alt ?_ ?_
                      · have H := Ha
                        clear Ha Hb
                        refine lp_d (d := some 49) (by kernel_rfl) rfl (by kernel_rfl) (by kernel_rfl) (by kernel_rfl) HA_15 (d_call (by kernel_rfl) (by kernel_rfl) H) (fun x49 h_13 w_16 H HA_16 => ?_)
                        refine lp_dc (d := some 7) (by kernel_rfl) rfl (by kernel_rfl) (by kernel_rfl) HA_16 (d_alloc Try.zeroValue23 H) (fun x7_1 h_14 w_17 H HA_17 => ?_)
                        refine lp_d (d := none) (by kernel_rfl) rfl (by kernel_rfl) (by kernel_rfl) (by kernel_rfl) HA_17 (d_stn Try.sizeOf23 (by kernel_rfl) (by kernel_rfl) H) (fun _ h_15 w_18 H HA_18 => ?_)
                        refine lp_nil ?_
                        exact ⟨(fun i => ([x43, x44, x1, x46, x47, x48, x49]).getD i undef), x7_1, h_15, by kernel_rfl, HA_18, H⟩
                      · have H := Hb
                        clear Ha Hb
                        refine lp_dc (d := some 7) (by kernel_rfl) rfl (by kernel_rfl) (by kernel_rfl) HA_15 (d_alloc Try.zeroValue23 H) (fun x7_2 h_16 w_19 H HA_19 => ?_)
                        refine lp_d (d := some 49) (by kernel_rfl) rfl (by kernel_rfl) (by kernel_rfl) (by kernel_rfl) HA_19 (d_call (by kernel_rfl) (by kernel_rfl) H) (fun x49_1 h_17 w_20 H HA_20 => ?_)
                        refine lp_d (d := none) (by kernel_rfl) rfl (by kernel_rfl) (by kernel_rfl) (by kernel_rfl) HA_20 (d_stn Try.sizeOf23 (by kernel_rfl) (by kernel_rfl) H) (fun _ h_18 w_21 H HA_21 => ?_)
                        refine lp_nil ?_
                        exact ⟨(fun i => ([x43, x44, x1, x46, x47, x48, x49_1]).getD i undef), x7_2, h_18, by kernel_rfl, HA_21, H⟩
                    · have H := Hb
                      clear Ha Hb
                      refine lp_dc (d := some 7) (by kernel_rfl) rfl (by kernel_rfl) (by kernel_rfl) HA_14 (d_alloc Try.zeroValue23 H) (fun x7_3 h_19 w_22 H HA_22 => ?_)
                      refine lp_fr (b := ⟨([x0, x1, x2, undef, (D_1 0), x5, x6, x7_3, x1, x9, x10, x10, (D 0), (D 1), (D 2), x15, undef, x5, x1, x19, x20, (D_1 5), (D_1 6), (D_1 7), (D_1 8), (D_1 9), (D_1 10), (D_1 11), (D_1 12), (D_1 13), (D_1 14), (D_1 15), (D_1 16), (D_1 17), (D_1 18), (D_1 19), (D_3 0), (D_3 1), (D_3 2), (D_3 3), (D_3 4), (D_3 5), (D_3 6), x43, x44, x1, x46, x47, undef, undef] ++ [undef, undef, undef, undef, undef, undef, undef, undef, undef, undef, undef]).toArray, []⟩) (by kernel_rfl) ?_
                      refine lp_dc (d := some 48) (by kernel_rfl) rfl (by kernel_rfl) (by kernel_rfl) HA_22 (d_app (z := #[.int .i64 0]) Try.underlying24 Try.underlying24 (.inl ⟨_, rfl⟩) Try.typeInfo3 (by kernel_rfl) Try.sizeOf3 Try.zeroValue3 (by kernel_rfl) (by kernel_rfl) (by kernel_rfl) H) (fun x48_1 h_20 w_23 H HA_23 => ?_)
                      refine lp_d (d := some 49) (by kernel_rfl) rfl (by kernel_rfl) (by kernel_rfl) (by kernel_rfl) HA_23 (d_call (by kernel_rfl) (by kernel_rfl) H) (fun x49_2 h_21 w_24 H HA_24 => ?_)
                      refine lp_d (d := none) (by kernel_rfl) rfl (by kernel_rfl) (by kernel_rfl) (by kernel_rfl) HA_24 (d_stn Try.sizeOf23 (by kernel_rfl) (by kernel_rfl) H) (fun _ h_22 w_25 H HA_25 => ?_)
                      refine lp_nil ?_
                      exact ⟨(fun i => ([x43, x44, x1, x46, x47, x48_1, x49_2]).getD i undef), x7_3, h_22, by kernel_rfl, HA_25, H⟩
                  · have H := Hb
                    clear Ha Hb
                    refine lp_dc (d := some 7) (by kernel_rfl) rfl (by kernel_rfl) (by kernel_rfl) HA_13 (d_alloc Try.zeroValue23 H) (fun x7_4 h_23 w_26 H HA_26 => ?_)
                    refine lp_dc (d := some 47) (by kernel_rfl) rfl (by kernel_rfl) (by kernel_rfl) HA_26 (d_slit (zc := #[.int .i64 0]) Try.underlying24 Try.sizeOf3 (by decide) (.inr ⟨by decide, _, Try.zeroValue3, (by kernel_rfl)⟩) (by kernel_rfl) (by kernel_rfl) H) (fun x47_1 h_24 w_27 H HA_27 => ?_)
                    refine lp_fr (b := ⟨([x0, x1, x2, undef, (D_1 0), x5, x6, x7_4, x1, x9, x10, x10, (D 0), (D 1), (D 2), x15, undef, x5, x1, x19, x20, (D_1 5), (D_1 6), (D_1 7), (D_1 8), (D_1 9), (D_1 10), (D_1 11), (D_1 12), (D_1 13), (D_1 14), (D_1 15), (D_1 16), (D_1 17), (D_1 18), (D_1 19), (D_3 0), (D_3 1), (D_3 2), (D_3 3), (D_3 4), (D_3 5), (D_3 6), x43, x44, x1, x46, x47_1, undef, undef] ++ [undef, undef, undef, undef, undef, undef, undef, undef, undef, undef, undef]).toArray, []⟩) (by kernel_rfl) ?_
                    refine lp_dc (d := some 48) (by kernel_rfl) rfl (by kernel_rfl) (by kernel_rfl) HA_27 (d_app (z := #[.int .i64 0]) Try.underlying24 Try.underlying24 (.inl ⟨_, rfl⟩) Try.typeInfo3 (by kernel_rfl) Try.sizeOf3 Try.zeroValue3 (by kernel_rfl) (by kernel_rfl) (by kernel_rfl) H) (fun x48_2 h_25 w_28 H HA_28 => ?_)
                    refine lp_d (d := some 49) (by kernel_rfl) rfl (by kernel_rfl) (by kernel_rfl) (by kernel_rfl) HA_28 (d_call (by kernel_rfl) (by kernel_rfl) H) (fun x49_3 h_26 w_29 H HA_29 => ?_)
                    refine lp_d (d := none) (by kernel_rfl) rfl (by kernel_rfl) (by kernel_rfl) (by kernel_rfl) HA_29 (d_stn Try.sizeOf23 (by kernel_rfl) (by kernel_rfl) H) (fun _ h_27 w_30 H HA_30 => ?_)
                    refine lp_nil ?_
                    exact ⟨(fun i => ([x43, x44, x1, x46, x47_1, x48_2, x49_3]).getD i undef), x7_4, h_27, by kernel_rfl, HA_30, H⟩
                · have H := Hb
                  clear Ha Hb
                  obtain ⟨Ha, Hb⟩ := H
                  refine lp_alt ?_ ?_
                  · have H := Ha
                    clear Ha Hb
                    refine lp_dc (d := some 47) (by kernel_rfl) rfl (by kernel_rfl) (by kernel_rfl) HA_12 (d_slit (zc := #[.int .i64 0]) Try.underlying24 Try.sizeOf3 (by decide) (.inr ⟨by decide, _, Try.zeroValue3, (by kernel_rfl)⟩) (by kernel_rfl) (by kernel_rfl) H) (fun x47_2 h_28 w_31 H HA_31 => ?_)
                    obtain ⟨Ha, Hb⟩ := H
                    refine lp_alt ?_ ?_
                    · have H := Ha
                      clear Ha Hb
                      refine lp_dc (d := some 46) (by kernel_rfl) rfl (by kernel_rfl) (by kernel_rfl) HA_31 (d_app (z := #[.int .i64 0]) Try.underlying24 Try.underlying24 (.inl ⟨_, rfl⟩) Try.typeInfo3 (by kernel_rfl) Try.sizeOf3 Try.zeroValue3 (by kernel_rfl) (by kernel_rfl) (by kernel_rfl) H) (fun x46_1 h_29 w_32 H HA_32 => ?_)
                      obtain ⟨Ha, Hb⟩ := H
                      refine lp_alt ?_ ?_
                      · have H := Ha
                        clear Ha Hb
                        refine lp_dc (d := some 48) (by kernel_rfl) rfl (by kernel_rfl) (by kernel_rfl) HA_32 (d_app (z := #[.int .i64 0]) Try.underlying24 Try.underlying24 (.inl ⟨_, rfl⟩) Try.typeInfo3 (by kernel_rfl) Try.sizeOf3 Try.zeroValue3 (by kernel_rfl) (by kernel_rfl) (by kernel_rfl) H) (fun x48_3 h_30 w_33 H HA_33 => ?_)
                        refine lp_fr (b := ⟨([x0, x1, x2, undef, (D_1 0), x5, x6, undef, x1, x9, x10, x10, (D 0), (D 1), (D 2), x15, undef, x5, x1, x19, x20, (D_1 5), (D_1 6), (D_1 7), (D_1 8), (D_1 9), (D_1 10), (D_1 11), (D_1 12), (D_1 13), (D_1 14), (D_1 15), (D_1 16), (D_1 17), (D_1 18), (D_1 19), (D_3 0), (D_3 1), (D_3 2), (D_3 3), (D_3 4), (D_3 5), (D_3 6), x43, x44, x1, x46_1, x47_2, x48_3, undef] ++ [undef, undef, undef, undef, undef, undef, undef, undef, undef, undef, undef]).toArray, []⟩) (by kernel_rfl) ?_
                        obtain ⟨Ha, Hb⟩ := H
                        refine lp_alt ?_ ?_
                        · have H := Ha
                          clear Ha Hb
                          refine lp_d (d := some 49) (by kernel_rfl) rfl (by kernel_rfl) (by kernel_rfl) (by kernel_rfl) HA_33 (d_call (by kernel_rfl) (by kernel_rfl) H) (fun x49_4 h_31 w_34 H HA_34 => ?_)
                          refine lp_dc (d := some 7) (by kernel_rfl) rfl (by kernel_rfl) (by kernel_rfl) HA_34 (d_alloc Try.zeroValue23 H) (fun x7_5 h_32 w_35 H HA_35 => ?_)
                          refine lp_d (d := none) (by kernel_rfl) rfl (by kernel_rfl) (by kernel_rfl) (by kernel_rfl) HA_35 (d_stn Try.sizeOf23 (by kernel_rfl) (by kernel_rfl) H) (fun _ h_33 w_36 H HA_36 => ?_)
                          refine lp_nil ?_
                          exact ⟨(fun i => ([x43, x44, x1, x46_1, x47_2, x48_3, x49_4]).getD i undef), x7_5, h_33, by kernel_rfl, HA_36, H⟩
                        · have H := Hb
                          clear Ha Hb
                          refine lp_dc (d := some 7) (by kernel_rfl) rfl (by kernel_rfl) (by kernel_rfl) HA_33 (d_alloc Try.zeroValue23 H) (fun x7_6 h_34 w_37 H HA_37 => ?_)
                          refine lp_d (d := some 49) (by kernel_rfl) rfl (by kernel_rfl) (by kernel_rfl) (by kernel_rfl) HA_37 (d_call (by kernel_rfl) (by kernel_rfl) H) (fun x49_5 h_35 w_38 H HA_38 => ?_)
                          refine lp_d (d := none) (by kernel_rfl) rfl (by kernel_rfl) (by kernel_rfl) (by kernel_rfl) HA_38 (d_stn Try.sizeOf23 (by kernel_rfl) (by kernel_rfl) H) (fun _ h_36 w_39 H HA_39 => ?_)
                          refine lp_nil ?_
                          exact ⟨(fun i => ([x43, x44, x1, x46_1, x47_2, x48_3, x49_5]).getD i undef), x7_6, h_36, by kernel_rfl, HA_39, H⟩
                      · have H := Hb
                        clear Ha Hb
                        refine lp_dc (d := some 7) (by kernel_rfl) rfl (by kernel_rfl) (by kernel_rfl) HA_32 (d_alloc Try.zeroValue23 H) (fun x7_7 h_37 w_40 H HA_40 => ?_)
                        refine lp_fr (b := ⟨([x0, x1, x2, undef, (D_1 0), x5, x6, x7_7, x1, x9, x10, x10, (D 0), (D 1), (D 2), x15, undef, x5, x1, x19, x20, (D_1 5), (D_1 6), (D_1 7), (D_1 8), (D_1 9), (D_1 10), (D_1 11), (D_1 12), (D_1 13), (D_1 14), (D_1 15), (D_1 16), (D_1 17), (D_1 18), (D_1 19), (D_3 0), (D_3 1), (D_3 2), (D_3 3), (D_3 4), (D_3 5), (D_3 6), x43, x44, x1, x46_1, x47_2, undef, undef] ++ [undef, undef, undef, undef, undef, undef, undef, undef, undef, undef, undef]).toArray, []⟩) (by kernel_rfl) ?_
                        refine lp_dc (d := some 48) (by kernel_rfl) rfl (by kernel_rfl) (by kernel_rfl) HA_40 (d_app (z := #[.int .i64 0]) Try.underlying24 Try.underlying24 (.inl ⟨_, rfl⟩) Try.typeInfo3 (by kernel_rfl) Try.sizeOf3 Try.zeroValue3 (by kernel_rfl) (by kernel_rfl) (by kernel_rfl) H) (fun x48_4 h_38 w_41 H HA_41 => ?_)
                        refine lp_d (d := some 49) (by kernel_rfl) rfl (by kernel_rfl) (by kernel_rfl) (by kernel_rfl) HA_41 (d_call (by kernel_rfl) (by kernel_rfl) H) (fun x49_6 h_39 w_42 H HA_42 => ?_)
                        refine lp_d (d := none) (by kernel_rfl) rfl (by kernel_rfl) (by kernel_rfl) (by kernel_rfl) HA_42 (d_stn Try.sizeOf23 (by kernel_rfl) (by kernel_rfl) H) (fun _ h_40 w_43 H HA_43 => ?_)
                        refine lp_nil ?_
                        exact ⟨(fun i => ([x43, x44, x1, x46_1, x47_2, x48_4, x49_6]).getD i undef), x7_7, h_40, by kernel_rfl, HA_43, H⟩
                    · have H := Hb
                      clear Ha Hb
                      refine lp_dc (d := some 7) (by kernel_rfl) rfl (by kernel_rfl) (by kernel_rfl) HA_31 (d_alloc Try.zeroValue23 H) (fun x7_8 h_41 w_44 H HA_44 => ?_)
                      refine lp_dc (d := some 46) (by kernel_rfl) rfl (by kernel_rfl) (by kernel_rfl) HA_44 (d_app (z := #[.int .i64 0]) Try.underlying24 Try.underlying24 (.inl ⟨_, rfl⟩) Try.typeInfo3 (by kernel_rfl) Try.sizeOf3 Try.zeroValue3 (by kernel_rfl) (by kernel_rfl) (by kernel_rfl) H) (fun x46_2 h_42 w_45 H HA_45 => ?_)
                      refine lp_fr (b := ⟨([x0, x1, x2, undef, (D_1 0), x5, x6, x7_8, x1, x9, x10, x10, (D 0), (D 1), (D 2), x15, undef, x5, x1, x19, x20, (D_1 5), (D_1 6), (D_1 7), (D_1 8), (D_1 9), (D_1 10), (D_1 11), (D_1 12), (D_1 13), (D_1 14), (D_1 15), (D_1 16), (D_1 17), (D_1 18), (D_1 19), (D_3 0), (D_3 1), (D_3 2), (D_3 3), (D_3 4), (D_3 5), (D_3 6), x43, x44, x1, x46_2, x47_2, undef, undef] ++ [undef, undef, undef, undef, undef, undef, undef, undef, undef, undef, undef]).toArray, []⟩) (by kernel_rfl) ?_
                      refine lp_dc (d := some 48) (by kernel_rfl) rfl (by kernel_rfl) (by kernel_rfl) HA_45 (d_app (z := #[.int .i64 0]) Try.underlying24 Try.underlying24 (.inl ⟨_, rfl⟩) Try.typeInfo3 (by kernel_rfl) Try.sizeOf3 Try.zeroValue3 (by kernel_rfl) (by kernel_rfl) (by kernel_rfl) H) (fun x48_5 h_43 w_46 H HA_46 => ?_)
                      refine lp_d (d := some 49) (by kernel_rfl) rfl (by kernel_rfl) (by kernel_rfl) (by kernel_rfl) HA_46 (d_call (by kernel_rfl) (by kernel_rfl) H) (fun x49_7 h_44 w_47 H HA_47 => ?_)
                      refine lp_d (d := none) (by kernel_rfl) rfl (by kernel_rfl) (by kernel_rfl) (by kernel_rfl) HA_47 (d_stn Try.sizeOf23 (by kernel_rfl) (by kernel_rfl) H) (fun _ h_45 w_48 H HA_48 => ?_)
                      refine lp_nil ?_
                      exact ⟨(fun i => ([x43, x44, x1, x46_2, x47_2, x48_5, x49_7]).getD i undef), x7_8, h_45, by kernel_rfl, HA_48, H⟩
                  · have H := Hb
                    clear Ha Hb
                    refine lp_dc (d := some 7) (by kernel_rfl) rfl (by kernel_rfl) (by kernel_rfl) HA_12 (d_alloc Try.zeroValue23 H) (fun x7_9 h_46 w_49 H HA_49 => ?_)
                    obtain ⟨Ha, Hb⟩ := H
                    refine lp_alt ?_ ?_
                    · have H := Ha
                      clear Ha Hb
                      refine lp_dc (d := some 46) (by kernel_rfl) rfl (by kernel_rfl) (by kernel_rfl) HA_49 (d_app (z := #[.int .i64 0]) Try.underlying24 Try.underlying24 (.inl ⟨_, rfl⟩) Try.typeInfo3 (by kernel_rfl) Try.sizeOf3 Try.zeroValue3 (by kernel_rfl) (by kernel_rfl) (by kernel_rfl) H) (fun x46_3 h_47 w_50 H HA_50 => ?_)
                      refine lp_dc (d := some 47) (by kernel_rfl) rfl (by kernel_rfl) (by kernel_rfl) HA_50 (d_slit (zc := #[.int .i64 0]) Try.underlying24 Try.sizeOf3 (by decide) (.inr ⟨by decide, _, Try.zeroValue3, (by kernel_rfl)⟩) (by kernel_rfl) (by kernel_rfl) H) (fun x47_3 h_48 w_51 H HA_51 => ?_)
                      refine lp_fr (b := ⟨([x0, x1, x2, undef, (D_1 0), x5, x6, x7_9, x1, x9, x10, x10, (D 0), (D 1), (D 2), x15, undef, x5, x1, x19, x20, (D_1 5), (D_1 6), (D_1 7), (D_1 8), (D_1 9), (D_1 10), (D_1 11), (D_1 12), (D_1 13), (D_1 14), (D_1 15), (D_1 16), (D_1 17), (D_1 18), (D_1 19), (D_3 0), (D_3 1), (D_3 2), (D_3 3), (D_3 4), (D_3 5), (D_3 6), x43, x44, x1, x46_3, x47_3, undef, undef] ++ [undef, undef, undef, undef, undef, undef, undef, undef, undef, undef, undef]).toArray, []⟩) (by kernel_rfl) ?_
                      refine lp_dc (d := some 48) (by kernel_rfl) rfl (by kernel_rfl) (by kernel_rfl) HA_51 (d_app (z := #[.int .i64 0]) Try.underlying24 Try.underlying24 (.inl ⟨_, rfl⟩) Try.typeInfo3 (by kernel_rfl) Try.sizeOf3 Try.zeroValue3 (by kernel_rfl) (by kernel_rfl) (by kernel_rfl) H) (fun x48_6 h_49 w_52 H HA_52 => ?_)
                      refine lp_d (d := some 49) (by kernel_rfl) rfl (by kernel_rfl) (by kernel_rfl) (by kernel_rfl) HA_52 (d_call (by kernel_rfl) (by kernel_rfl) H) (fun x49_8 h_50 w_53 H HA_53 => ?_)
                      refine lp_d (d := none) (by kernel_rfl) rfl (by kernel_rfl) (by kernel_rfl) (by kernel_rfl) HA_53 (d_stn Try.sizeOf23 (by kernel_rfl) (by kernel_rfl) H) (fun _ h_51 w_54 H HA_54 => ?_)
                      refine lp_nil ?_
                      exact ⟨(fun i => ([x43, x44, x1, x46_3, x47_3, x48_6, x49_8]).getD i undef), x7_9, h_51, by kernel_rfl, HA_54, H⟩
                    · have H := Hb
                      clear Ha Hb
                      refine lp_dc (d := some 47) (by kernel_rfl) rfl (by kernel_rfl) (by kernel_rfl) HA_49 (d_slit (zc := #[.int .i64 0]) Try.underlying24 Try.sizeOf3 (by decide) (.inr ⟨by decide, _, Try.zeroValue3, (by kernel_rfl)⟩) (by kernel_rfl) (by kernel_rfl) H) (fun x47_4 h_52 w_55 H HA_55 => ?_)
                      refine lp_dc (d := some 46) (by kernel_rfl) rfl (by kernel_rfl) (by kernel_rfl) HA_55 (d_app (z := #[.int .i64 0]) Try.underlying24 Try.underlying24 (.inl ⟨_, rfl⟩) Try.typeInfo3 (by kernel_rfl) Try.sizeOf3 Try.zeroValue3 (by kernel_rfl) (by kernel_rfl) (by kernel_rfl) H) (fun x46_4 h_53 w_56 H HA_56 => ?_)
                      refine lp_fr (b := ⟨([x0, x1, x2, undef, (D_1 0), x5, x6, x7_9, x1, x9, x10, x10, (D 0), (D 1), (D 2), x15, undef, x5, x1, x19, x20, (D_1 5), (D_1 6), (D_1 7), (D_1 8), (D_1 9), (D_1 10), (D_1 11), (D_1 12), (D_1 13), (D_1 14), (D_1 15), (D_1 16), (D_1 17), (D_1 18), (D_1 19), (D_3 0), (D_3 1), (D_3 2), (D_3 3), (D_3 4), (D_3 5), (D_3 6), x43, x44, x1, x46_4, x47_4, undef, undef] ++ [undef, undef, undef, undef, undef, undef, undef, undef, undef, undef, undef]).toArray, []⟩) (by kernel_rfl) ?_
                      refine lp_dc (d := some 48) (by kernel_rfl) rfl (by kernel_rfl) (by kernel_rfl) HA_56 (d_app (z := #[.int .i64 0]) Try.underlying24 Try.underlying24 (.inl ⟨_, rfl⟩) Try.typeInfo3 (by kernel_rfl) Try.sizeOf3 Try.zeroValue3 (by kernel_rfl) (by kernel_rfl) (by kernel_rfl) H) (fun x48_7 h_54 w_57 H HA_57 => ?_)
                      refine lp_d (d := some 49) (by kernel_rfl) rfl (by kernel_rfl) (by kernel_rfl) (by kernel_rfl) HA_57 (d_call (by kernel_rfl) (by kernel_rfl) H) (fun x49_9 h_55 w_58 H HA_58 => ?_)
                      refine lp_d (d := none) (by kernel_rfl) rfl (by kernel_rfl) (by kernel_rfl) (by kernel_rfl) HA_58 (d_stn Try.sizeOf23 (by kernel_rfl) (by kernel_rfl) H) (fun _ h_56 w_59 H HA_59 => ?_)
                      refine lp_nil ?_
                      exact ⟨(fun i => ([x43, x44, x1, x46_4, x47_4, x48_7, x49_9]).getD i undef), x7_9, h_56, by kernel_rfl, HA_59, H⟩
              · have H := Hb
                clear Ha Hb
                obtain ⟨Ha, Hb⟩ := H
                refine lp_alt ?_ ?_
                · have H := Ha
                  clear Ha Hb
                  refine lp_dc (d := some 47) (by kernel_rfl) rfl (by kernel_rfl) (by kernel_rfl) HA_11 (d_slit (zc := #[.int .i64 0]) Try.underlying24 Try.sizeOf3 (by decide) (.inr ⟨by decide, _, Try.zeroValue3, (by kernel_rfl)⟩) (by kernel_rfl) (by kernel_rfl) H) (fun x47_5 h_57 w_60 H HA_60 => ?_)
                  obtain ⟨Ha, Hb⟩ := H
                  refine lp_alt ?_ ?_
                  · have H := Ha
                    clear Ha Hb
                    refine lp_dc (d := some 44) (by kernel_rfl) rfl (by kernel_rfl) (by kernel_rfl) HA_60 (d_slit (zc := #[]) Try.underlying24 Try.sizeOf3 (by decide) (.inl ⟨(by kernel_rfl), (by kernel_rfl)⟩) (by kernel_rfl) (by kernel_rfl) H) (fun x44_1 h_58 w_61 H HA_61 => ?_)
                    obtain ⟨Ha, Hb⟩ := H
                    refine lp_alt ?_ ?_
                    · have H := Ha
                      clear Ha Hb
                      refine lp_dc (d := some 46) (by kernel_rfl) rfl (by kernel_rfl) (by kernel_rfl) HA_61 (d_app (z := #[.int .i64 0]) Try.underlying24 Try.underlying24 (.inl ⟨_, rfl⟩) Try.typeInfo3 (by kernel_rfl) Try.sizeOf3 Try.zeroValue3 (by kernel_rfl) (by kernel_rfl) (by kernel_rfl) H) (fun x46_5 h_59 w_62 H HA_62 => ?_)
                      obtain ⟨Ha, Hb⟩ := H
                      refine lp_alt ?_ ?_
                      · have H := Ha
                        clear Ha Hb
                        refine lp_dc (d := some 48) (by kernel_rfl) rfl (by kernel_rfl) (by kernel_rfl) HA_62 (d_app (z := #[.int .i64 0]) Try.underlying24 Try.underlying24 (.inl ⟨_, rfl⟩) Try.typeInfo3 (by kernel_rfl) Try.sizeOf3 Try.zeroValue3 (by kernel_rfl) (by kernel_rfl) (by kernel_rfl) H) (fun x48_8 h_60 w_63 H HA_63 => ?_)
                        refine lp_fr (b := ⟨([x0, x1, x2, undef, (D_1 0), x5, x6, undef, x1, x9, x10, x10, (D 0), (D 1), (D 2), x15, undef, x5, x1, x19, x20, (D_1 5), (D_1 6), (D_1 7), (D_1 8), (D_1 9), (D_1 10), (D_1 11), (D_1 12), (D_1 13), (D_1 14), (D_1 15), (D_1 16), (D_1 17), (D_1 18), (D_1 19), (D_3 0), (D_3 1), (D_3 2), (D_3 3), (D_3 4), (D_3 5), (D_3 6), x43, x44_1, x1, x46_5, x47_5, x48_8, undef] ++ [undef, undef, undef, undef, undef, undef, undef, undef, undef, undef, undef]).toArray, []⟩) (by kernel_rfl) ?_
                        obtain ⟨Ha, Hb⟩ := H
                        refine lp_alt ?_ ?_
                        · have H := Ha
                          clear Ha Hb
                          refine lp_d (d := some 49) (by kernel_rfl) rfl (by kernel_rfl) (by kernel_rfl) (by kernel_rfl) HA_63 (d_call (by kernel_rfl) (by kernel_rfl) H) (fun x49_10 h_61 w_64 H HA_64 => ?_)
                          refine lp_dc (d := some 7) (by kernel_rfl) rfl (by kernel_rfl) (by kernel_rfl) HA_64 (d_alloc Try.zeroValue23 H) (fun x7_10 h_62 w_65 H HA_65 => ?_)
                          refine lp_d (d := none) (by kernel_rfl) rfl (by kernel_rfl) (by kernel_rfl) (by kernel_rfl) HA_65 (d_stn Try.sizeOf23 (by kernel_rfl) (by kernel_rfl) H) (fun _ h_63 w_66 H HA_66 => ?_)
                          refine lp_nil ?_
                          exact ⟨(fun i => ([x43, x44_1, x1, x46_5, x47_5, x48_8, x49_10]).getD i undef), x7_10, h_63, by kernel_rfl, HA_66, H⟩
                        · have H := Hb
                          clear Ha Hb
                          refine lp_dc (d := some 7) (by kernel_rfl) rfl (by kernel_rfl) (by kernel_rfl) HA_63 (d_alloc Try.zeroValue23 H) (fun x7_11 h_64 w_67 H HA_67 => ?_)
                          refine lp_d (d := some 49) (by kernel_rfl) rfl (by kernel_rfl) (by kernel_rfl) (by kernel_rfl) HA_67 (d_call (by kernel_rfl) (by kernel_rfl) H) (fun x49_11 h_65 w_68 H HA_68 => ?_)
                          refine lp_d (d := none) (by kernel_rfl) rfl (by kernel_rfl) (by kernel_rfl) (by kernel_rfl) HA_68 (d_stn Try.sizeOf23 (by kernel_rfl) (by kernel_rfl) H) (fun _ h_66 w_69 H HA_69 => ?_)
                          refine lp_nil ?_
                          exact ⟨(fun i => ([x43, x44_1, x1, x46_5, x47_5, x48_8, x49_11]).getD i undef), x7_11, h_66, by kernel_rfl, HA_69, H⟩
                      · have H := Hb
                        clear Ha Hb
                        refine lp_dc (d := some 7) (by kernel_rfl) rfl (by kernel_rfl) (by kernel_rfl) HA_62 (d_alloc Try.zeroValue23 H) (fun x7_12 h_67 w_70 H HA_70 => ?_)
                        refine lp_fr (b := ⟨([x0, x1, x2, undef, (D_1 0), x5, x6, x7_12, x1, x9, x10, x10, (D 0), (D 1), (D 2), x15, undef, x5, x1, x19, x20, (D_1 5), (D_1 6), (D_1 7), (D_1 8), (D_1 9), (D_1 10), (D_1 11), (D_1 12), (D_1 13), (D_1 14), (D_1 15), (D_1 16), (D_1 17), (D_1 18), (D_1 19), (D_3 0), (D_3 1), (D_3 2), (D_3 3), (D_3 4), (D_3 5), (D_3 6), x43, x44_1, x1, x46_5, x47_5, undef, undef] ++ [undef, undef, undef, undef, undef, undef, undef, undef, undef, undef, undef]).toArray, []⟩) (by kernel_rfl) ?_
                        refine lp_dc (d := some 48) (by kernel_rfl) rfl (by kernel_rfl) (by kernel_rfl) HA_70 (d_app (z := #[.int .i64 0]) Try.underlying24 Try.underlying24 (.inl ⟨_, rfl⟩) Try.typeInfo3 (by kernel_rfl) Try.sizeOf3 Try.zeroValue3 (by kernel_rfl) (by kernel_rfl) (by kernel_rfl) H) (fun x48_9 h_68 w_71 H HA_71 => ?_)
                        refine lp_d (d := some 49) (by kernel_rfl) rfl (by kernel_rfl) (by kernel_rfl) (by kernel_rfl) HA_71 (d_call (by kernel_rfl) (by kernel_rfl) H) (fun x49_12 h_69 w_72 H HA_72 => ?_)
                        refine lp_d (d := none) (by kernel_rfl) rfl (by kernel_rfl) (by kernel_rfl) (by kernel_rfl) HA_72 (d_stn Try.sizeOf23 (by kernel_rfl) (by kernel_rfl) H) (fun _ h_70 w_73 H HA_73 => ?_)
                        refine lp_nil ?_
                        exact ⟨(fun i => ([x43, x44_1, x1, x46_5, x47_5, x48_9, x49_12]).getD i undef), x7_12, h_70, by kernel_rfl, HA_73, H⟩
                    · have H := Hb
                      clear Ha Hb
                      refine lp_dc (d := some 7) (by kernel_rfl) rfl (by kernel_rfl) (by kernel_rfl) HA_61 (d_alloc Try.zeroValue23 H) (fun x7_13 h_71 w_74 H HA_74 => ?_)
                      refine lp_dc (d := some 46) (by kernel_rfl) rfl (by kernel_rfl) (by kernel_rfl) HA_74 (d_app (z := #[.int .i64 0]) Try.underlying24 Try.underlying24 (.inl ⟨_, rfl⟩) Try.typeInfo3 (by kernel_rfl) Try.sizeOf3 Try.zeroValue3 (by kernel_rfl) (by kernel_rfl) (by kernel_rfl) H) (fun x46_6 h_72 w_75 H HA_75 => ?_)
                      refine lp_fr (b := ⟨([x0, x1, x2, undef, (D_1 0), x5, x6, x7_13, x1, x9, x10, x10, (D 0), (D 1), (D 2), x15, undef, x5, x1, x19, x20, (D_1 5), (D_1 6), (D_1 7), (D_1 8), (D_1 9), (D_1 10), (D_1 11), (D_1 12), (D_1 13), (D_1 14), (D_1 15), (D_1 16), (D_1 17), (D_1 18), (D_1 19), (D_3 0), (D_3 1), (D_3 2), (D_3 3), (D_3 4), (D_3 5), (D_3 6), x43, x44_1, x1, x46_6, x47_5, undef, undef] ++ [undef, undef, undef, undef, undef, undef, undef, undef, undef, undef, undef]).toArray, []⟩) (by kernel_rfl) ?_
                      refine lp_dc (d := some 48) (by kernel_rfl) rfl (by kernel_rfl) (by kernel_rfl) HA_75 (d_app (z := #[.int .i64 0]) Try.underlying24 Try.underlying24 (.inl ⟨_, rfl⟩) Try.typeInfo3 (by kernel_rfl) Try.sizeOf3 Try.zeroValue3 (by kernel_rfl) (by kernel_rfl) (by kernel_rfl) H) (fun x48_10 h_73 w_76 H HA_76 => ?_)
                      refine lp_d (d := some 49) (by kernel_rfl) rfl (by kernel_rfl) (by kernel_rfl) (by kernel_rfl) HA_76 (d_call (by kernel_rfl) (by kernel_rfl) H) (fun x49_13 h_74 w_77 H HA_77 => ?_)
                      refine lp_d (d := none) (by kernel_rfl) rfl (by kernel_rfl) (by kernel_rfl) (by kernel_rfl) HA_77 (d_stn Try.sizeOf23 (by kernel_rfl) (by kernel_rfl) H) (fun _ h_75 w_78 H HA_78 => ?_)
                      refine lp_nil ?_
                      exact ⟨(fun i => ([x43, x44_1, x1, x46_6, x47_5, x48_10, x49_13]).getD i undef), x7_13, h_75, by kernel_rfl, HA_78, H⟩
                  · have H := Hb
                    clear Ha Hb
                    refine lp_dc (d := some 7) (by kernel_rfl) rfl (by kernel_rfl) (by kernel_rfl) HA_60 (d_alloc Try.zeroValue23 H) (fun x7_14 h_76 w_79 H HA_79 => ?_)
                    refine lp_dc (d := some 44) (by kernel_rfl) rfl (by kernel_rfl) (by kernel_rfl) HA_79 (d_slit (zc := #[]) Try.underlying24 Try.sizeOf3 (by decide) (.inl ⟨(by kernel_rfl), (by kernel_rfl)⟩) (by kernel_rfl) (by kernel_rfl) H) (fun x44_2 h_77 w_80 H HA_80 => ?_)
                    refine lp_dc (d := some 46) (by kernel_rfl) rfl (by kernel_rfl) (by kernel_rfl) HA_80 (d_app (z := #[.int .i64 0]) Try.underlying24 Try.underlying24 (.inl ⟨_, rfl⟩) Try.typeInfo3 (by kernel_rfl) Try.sizeOf3 Try.zeroValue3 (by kernel_rfl) (by kernel_rfl) (by kernel_rfl) H) (fun x46_7 h_78 w_81 H HA_81 => ?_)
                    refine lp_fr (b := ⟨([x0, x1, x2, undef, (D_1 0), x5, x6, x7_14, x1, x9, x10, x10, (D 0), (D 1), (D 2), x15, undef, x5, x1, x19, x20, (D_1 5), (D_1 6), (D_1 7), (D_1 8), (D_1 9), (D_1 10), (D_1 11), (D_1 12), (D_1 13), (D_1 14), (D_1 15), (D_1 16), (D_1 17), (D_1 18), (D_1 19), (D_3 0), (D_3 1), (D_3 2), (D_3 3), (D_3 4), (D_3 5), (D_3 6), x43, x44_2, x1, x46_7, x47_5, undef, undef] ++ [undef, undef, undef, undef, undef, undef, undef, undef, undef, undef, undef]).toArray, []⟩) (by kernel_rfl) ?_
                    refine lp_dc (d := some 48) (by kernel_rfl) rfl (by kernel_rfl) (by kernel_rfl) HA_81 (d_app (z := #[.int .i64 0]) Try.underlying24 Try.underlying24 (.inl ⟨_, rfl⟩) Try.typeInfo3 (by kernel_rfl) Try.sizeOf3 Try.zeroValue3 (by kernel_rfl) (by kernel_rfl) (by kernel_rfl) H) (fun x48_11 h_79 w_82 H HA_82 => ?_)
                    refine lp_d (d := some 49) (by kernel_rfl) rfl (by kernel_rfl) (by kernel_rfl) (by kernel_rfl) HA_82 (d_call (by kernel_rfl) (by kernel_rfl) H) (fun x49_14 h_80 w_83 H HA_83 => ?_)
                    refine lp_d (d := none) (by kernel_rfl) rfl (by kernel_rfl) (by kernel_rfl) (by kernel_rfl) HA_83 (d_stn Try.sizeOf23 (by kernel_rfl) (by kernel_rfl) H) (fun _ h_81 w_84 H HA_84 => ?_)
                    refine lp_nil ?_
                    exact ⟨(fun i => ([x43, x44_2, x1, x46_7, x47_5, x48_11, x49_14]).getD i undef), x7_14, h_81, by kernel_rfl, HA_84, H⟩
                · have H := Hb
                  clear Ha Hb
                  refine lp_dc (d := some 7) (by kernel_rfl) rfl (by kernel_rfl) (by kernel_rfl) HA_11 (d_alloc Try.zeroValue23 H) (fun x7_15 h_82 w_85 H HA_85 => ?_)
                  obtain ⟨Ha, Hb⟩ := H
                  refine lp_alt ?_ ?_
                  · have H := Ha
                    clear Ha Hb
                    refine lp_dc (d := some 44) (by kernel_rfl) rfl (by kernel_rfl) (by kernel_rfl) HA_85 (d_slit (zc := #[]) Try.underlying24 Try.sizeOf3 (by decide) (.inl ⟨(by kernel_rfl), (by kernel_rfl)⟩) (by kernel_rfl) (by kernel_rfl) H) (fun x44_3 h_83 w_86 H HA_86 => ?_)
                    obtain ⟨Ha, Hb⟩ := H
                    refine lp_alt ?_ ?_
                    · have H := Ha
                      clear Ha Hb
                      refine lp_dc (d := some 46) (by kernel_rfl) rfl (by kernel_rfl) (by kernel_rfl) HA_86 (d_app (z := #[.int .i64 0]) Try.underlying24 Try.underlying24 (.inl ⟨_, rfl⟩) Try.typeInfo3 (by kernel_rfl) Try.sizeOf3 Try.zeroValue3 (by kernel_rfl) (by kernel_rfl) (by kernel_rfl) H) (fun x46_8 h_84 w_87 H HA_87 => ?_)
                      refine lp_dc (d := some 47) (by kernel_rfl) rfl (by kernel_rfl) (by kernel_rfl) HA_87 (d_slit (zc := #[.int .i64 0]) Try.underlying24 Try.sizeOf3 (by decide) (.inr ⟨by decide, _, Try.zeroValue3, (by kernel_rfl)⟩) (by kernel_rfl) (by kernel_rfl) H) (fun x47_6 h_85 w_88 H HA_88 => ?_)
                      refine lp_fr (b := ⟨([x0, x1, x2, undef, (D_1 0), x5, x6, x7_15, x1, x9, x10, x10, (D 0), (D 1), (D 2), x15, undef, x5, x1, x19, x20, (D_1 5), (D_1 6), (D_1 7), (D_1 8), (D_1 9), (D_1 10), (D_1 11), (D_1 12), (D_1 13), (D_1 14), (D_1 15), (D_1 16), (D_1 17), (D_1 18), (D_1 19), (D_3 0), (D_3 1), (D_3 2), (D_3 3), (D_3 4), (D_3 5), (D_3 6), x43, x44_3, x1, x46_8, x47_6, undef, undef] ++ [undef, undef, undef, undef, undef, undef, undef, undef, undef, undef, undef]).toArray, []⟩) (by kernel_rfl) ?_
                      refine lp_dc (d := some 48) (by kernel_rfl) rfl (by kernel_rfl) (by kernel_rfl) HA_88 (d_app (z := #[.int .i64 0]) Try.underlying24 Try.underlying24 (.inl ⟨_, rfl⟩) Try.typeInfo3 (by kernel_rfl) Try.sizeOf3 Try.zeroValue3 (by kernel_rfl) (by kernel_rfl) (by kernel_rfl) H) (fun x48_12 h_86 w_89 H HA_89 => ?_)
                      refine lp_d (d := some 49) (by kernel_rfl) rfl (by kernel_rfl) (by kernel_rfl) (by kernel_rfl) HA_89 (d_call (by kernel_rfl) (by kernel_rfl) H) (fun x49_15 h_87 w_90 H HA_90 => ?_)
                      refine lp_d (d := none) (by kernel_rfl) rfl (by kernel_rfl) (by kernel_rfl) (by kernel_rfl) HA_90 (d_stn Try.sizeOf23 (by kernel_rfl) (by kernel_rfl) H) (fun _ h_88 w_91 H HA_91 => ?_)
                      refine lp_nil ?_
                      exact ⟨(fun i => ([x43, x44_3, x1, x46_8, x47_6, x48_12, x49_15]).getD i undef), x7_15, h_88, by kernel_rfl, HA_91, H⟩
                    · have H := Hb
                      clear Ha Hb
                      refine lp_dc (d := some 47) (by kernel_rfl) rfl (by kernel_rfl) (by kernel_rfl) HA_86 (d_slit (zc := #[.int .i64 0]) Try.underlying24 Try.sizeOf3 (by decide) (.inr ⟨by decide, _, Try.zeroValue3, (by kernel_rfl)⟩) (by kernel_rfl) (by kernel_rfl) H) (fun x47_7 h_89 w_92 H HA_92 => ?_)
                      refine lp_dc (d := some 46) (by kernel_rfl) rfl (by kernel_rfl) (by kernel_rfl) HA_92 (d_app (z := #[.int .i64 0]) Try.underlying24 Try.underlying24 (.inl ⟨_, rfl⟩) Try.typeInfo3 (by kernel_rfl) Try.sizeOf3 Try.zeroValue3 (by kernel_rfl) (by kernel_rfl) (by kernel_rfl) H) (fun x46_9 h_90 w_93 H HA_93 => ?_)
                      refine lp_fr (b := ⟨([x0, x1, x2, undef, (D_1 0), x5, x6, x7_15, x1, x9, x10, x10, (D 0), (D 1), (D 2), x15, undef, x5, x1, x19, x20, (D_1 5), (D_1 6), (D_1 7), (D_1 8), (D_1 9), (D_1 10), (D_1 11), (D_1 12), (D_1 13), (D_1 14), (D_1 15), (D_1 16), (D_1 17), (D_1 18), (D_1 19), (D_3 0), (D_3 1), (D_3 2), (D_3 3), (D_3 4), (D_3 5), (D_3 6), x43, x44_3, x1, x46_9, x47_7, undef, undef] ++ [undef, undef, undef, undef, undef, undef, undef, undef, undef, undef, undef]).toArray, []⟩) (by kernel_rfl) ?_
                      refine lp_dc (d := some 48) (by kernel_rfl) rfl (by kernel_rfl) (by kernel_rfl) HA_93 (d_app (z := #[.int .i64 0]) Try.underlying24 Try.underlying24 (.inl ⟨_, rfl⟩) Try.typeInfo3 (by kernel_rfl) Try.sizeOf3 Try.zeroValue3 (by kernel_rfl) (by kernel_rfl) (by kernel_rfl) H) (fun x48_13 h_91 w_94 H HA_94 => ?_)
                      refine lp_d (d := some 49) (by kernel_rfl) rfl (by kernel_rfl) (by kernel_rfl) (by kernel_rfl) HA_94 (d_call (by kernel_rfl) (by kernel_rfl) H) (fun x49_16 h_92 w_95 H HA_95 => ?_)
                      refine lp_d (d := none) (by kernel_rfl) rfl (by kernel_rfl) (by kernel_rfl) (by kernel_rfl) HA_95 (d_stn Try.sizeOf23 (by kernel_rfl) (by kernel_rfl) H) (fun _ h_93 w_96 H HA_96 => ?_)
                      refine lp_nil ?_
                      exact ⟨(fun i => ([x43, x44_3, x1, x46_9, x47_7, x48_13, x49_16]).getD i undef), x7_15, h_93, by kernel_rfl, HA_96, H⟩
                  · have H := Hb
                    clear Ha Hb
                    refine lp_dc (d := some 47) (by kernel_rfl) rfl (by kernel_rfl) (by kernel_rfl) HA_85 (d_slit (zc := #[.int .i64 0]) Try.underlying24 Try.sizeOf3 (by decide) (.inr ⟨by decide, _, Try.zeroValue3, (by kernel_rfl)⟩) (by kernel_rfl) (by kernel_rfl) H) (fun x47_8 h_94 w_97 H HA_97 => ?_)
                    refine lp_dc (d := some 44) (by kernel_rfl) rfl (by kernel_rfl) (by kernel_rfl) HA_97 (d_slit (zc := #[]) Try.underlying24 Try.sizeOf3 (by decide) (.inl ⟨(by kernel_rfl), (by kernel_rfl)⟩) (by kernel_rfl) (by kernel_rfl) H) (fun x44_4 h_95 w_98 H HA_98 => ?_)
                    refine lp_dc (d := some 46) (by kernel_rfl) rfl (by kernel_rfl) (by kernel_rfl) HA_98 (d_app (z := #[.int .i64 0]) Try.underlying24 Try.underlying24 (.inl ⟨_, rfl⟩) Try.typeInfo3 (by kernel_rfl) Try.sizeOf3 Try.zeroValue3 (by kernel_rfl) (by kernel_rfl) (by kernel_rfl) H) (fun x46_10 h_96 w_99 H HA_99 => ?_)
                    refine lp_fr (b := ⟨([x0, x1, x2, undef, (D_1 0), x5, x6, x7_15, x1, x9, x10, x10, (D 0), (D 1), (D 2), x15, undef, x5, x1, x19, x20, (D_1 5), (D_1 6), (D_1 7), (D_1 8), (D_1 9), (D_1 10), (D_1 11), (D_1 12), (D_1 13), (D_1 14), (D_1 15), (D_1 16), (D_1 17), (D_1 18), (D_1 19), (D_3 0), (D_3 1), (D_3 2), (D_3 3), (D_3 4), (D_3 5), (D_3 6), x43, x44_4, x1, x46_10, x47_8, undef, undef] ++ [undef, undef, undef, undef, undef, undef, undef, undef, undef, undef, undef]).toArray, []⟩) (by kernel_rfl) ?_
                    refine lp_dc (d := some 48) (by kernel_rfl) rfl (by kernel_rfl) (by kernel_rfl) HA_99 (d_app (z := #[.int .i64 0]) Try.underlying24 Try.underlying24 (.inl ⟨_, rfl⟩) Try.typeInfo3 (by kernel_rfl) Try.sizeOf3 Try.zeroValue3 (by kernel_rfl) (by kernel_rfl) (by kernel_rfl) H) (fun x48_14 h_97 w_100 H HA_100 => ?_)
                    refine lp_d (d := some 49) (by kernel_rfl) rfl (by kernel_rfl) (by kernel_rfl) (by kernel_rfl) HA_100 (d_call (by kernel_rfl) (by kernel_rfl) H) (fun x49_17 h_98 w_101 H HA_101 => ?_)
                    refine lp_d (d := none) (by kernel_rfl) rfl (by kernel_rfl) (by kernel_rfl) (by kernel_rfl) HA_101 (d_stn Try.sizeOf23 (by kernel_rfl) (by kernel_rfl) H) (fun _ h_99 w_102 H HA_102 => ?_)
                    refine lp_nil ?_
                    exact ⟨(fun i => ([x43, x44_4, x1, x46_10, x47_8, x48_14, x49_17]).getD i undef), x7_15, h_99, by kernel_rfl, HA_102, H⟩
            · rintro _ w_7 ⟨D_4, x7, h_6, rfl, HA_7, H⟩
              unfold betonylaw05_PenReset_j3 at H
              refine then_normal ?_
              refine fr_eq (b := ⟨([x0, x1, x2, undef, (D_1 0), x5, x6, x7, x1, x9, x10, x10, (D 0), (D 1), (D 2), x15, undef, x5, x1, x19, x20, (D_1 5), (D_1 6), (D_1 7), (D_1 8), (D_1 9), (D_1 10), (D_1 11), (D_1 12), (D_1 13), (D_1 14), (D_1 15), (D_1 16), (D_1 17), (D_1 18), (D_1 19), (D_3 0), (D_3 1), (D_3 2), (D_3 3), (D_3 4), (D_3 5), (D_3 6), (D_4 0), (D_4 1), (D_4 2), (D_4 3), (D_4 4), (D_4 5), (D_4 6)] ++ [undef, undef, undef, undef, undef, undef, undef, undef, undef, undef, undef]).toArray, []⟩) (by kernel_rfl) ?_
              refine wp_seq ?_
              refine lwp_list ?_
              refine ls_y (d := some 50) (by kernel_rfl) (by kernel_rfl) HA_7 (y_ldn Try.isAgg23 Try.sizeOf23 (by kernel_rfl) H) (fun x50 H => ?_)
              refine ls_p (d := some 51) (by kernel_rfl) (by kernel_rfl) (p_lit (pl := [(0, 1), (1, 1), (2, 1)]) Try.zeroValue23 Try.underlying23 ⟨(by kernel_rfl), Try.sizeOf3, (by kernel_rfl), Try.sizeOf3, (by kernel_rfl), Try.sizeOf3, trivial⟩ (by kernel_rfl) (by kernel_rfl) H) (fun x51 H => ?_)
              refine ls_p (d := some 52) (by kernel_rfl) (by kernel_rfl) (p_eqlAgg (eqT_23) (by kernel_rfl) (by kernel_rfl) H) (fun x52 H => ?_)
              refine ls_move (x := x52) (by kernel_rfl) (by kernel_rfl) ?_
              refine ls_and [(), (), (), ()] (fun K a w => ∃ (D_5 : Nat → Value) (x57 : Value), a = ⟨([x0, x1, x2, undef, (D_1 0), x5, x6, x7, x1, x9, x10, x10, (D 0), (D 1), (D 2), x15, undef, x5, x1, x19, x20, (D_1 5), (D_1 6), (D_1 7), (D_1 8), (D_1 9), (D_1 10), (D_1 11), (D_1 12), (D_1 13), (D_1 14), (D_1 15), (D_1 16), (D_1 17), (D_1 18), (D_1 19), (D_3 0), (D_3 1), (D_3 2), (D_3 3), (D_3 4), (D_3 5), (D_3 6), (D_4 0), (D_4 1), (D_4 2), (D_4 3), (D_4 4), (D_4 5), (D_4 6)] ++ [x50, x51, x52, x52, (D_5 0), (D_5 1), (D_5 2), x57, undef, undef, undef]).toArray, []⟩ ∧ At w0 w h_6 ∧ K x57) H (fun hb_2 H => ?_) (fun hb_2 H => ?_) ?_
              · refine ls_p (d := some 54) (by kernel_rfl) (by rw [hb_2]; kernel_rfl) (p_off Try.underlying23 rfl (fun w => ⟨_, Try.sizeOf3 w⟩) rfl (by kernel_rfl) H) (fun x54 H => ?_)
                refine ls_y (d := some 55) (by kernel_rfl) (by rw [hb_2]; kernel_rfl) HA_7 (y_ld Try.isAgg3 (by kernel_rfl) H) (fun x55 H => ?_)
                refine ls_fr (b := ⟨([x0, x1, x2, undef, (D_1 0), x5, x6, x7, x1, x9, x10, x10, (D 0), (D 1), (D 2), x15, undef, x5, x1, x19, x20, (D_1 5), (D_1 6), (D_1 7), (D_1 8), (D_1 9), (D_1 10), (D_1 11), (D_1 12), (D_1 13), (D_1 14), (D_1 15), (D_1 16), (D_1 17), (D_1 18), (D_1 19), (D_3 0), (D_3 1), (D_3 2), (D_3 3), (D_3 4), (D_3 5), (D_3 6), (D_4 0), (D_4 1), (D_4 2), (D_4 3), (D_4 4), (D_4 5), (D_4 6)] ++ [x50, x51, x52, x52, x54, x55, undef, undef, undef, undef, undef]).toArray, []⟩) (by kernel_rfl) ?_
                refine ls_p (d := some 56) (by kernel_rfl) (by rw [hb_2]; kernel_rfl) (p_sEq (by kernel_rfl) (by kernel_rfl) H) (fun x56 H => ?_)
                refine ls_pick_t (x := x56) (by kernel_rfl) (by rw [hb_2]; kernel_rfl) (by kernel_rfl) ?_
                refine ls_nil ?_
                refine then_normal ?_
                exact ⟨(fun i => ([x54, x55, x56]).getD i undef), x56, by kernel_rfl, HA_7, H⟩
              · refine ls_skip (d := some 54) (by kernel_rfl) (by rw [hb_2]; kernel_rfl) ?_
                refine ls_skip (d := some 55) (by kernel_rfl) (by rw [hb_2]; kernel_rfl) ?_
                refine ls_fr (b := ⟨([x0, x1, x2, undef, (D_1 0), x5, x6, x7, x1, x9, x10, x10, (D 0), (D 1), (D 2), x15, undef, x5, x1, x19, x20, (D_1 5), (D_1 6), (D_1 7), (D_1 8), (D_1 9), (D_1 10), (D_1 11), (D_1 12), (D_1 13), (D_1 14), (D_1 15), (D_1 16), (D_1 17), (D_1 18), (D_1 19), (D_3 0), (D_3 1), (D_3 2), (D_3 3), (D_3 4), (D_3 5), (D_3 6), (D_4 0), (D_4 1), (D_4 2), (D_4 3), (D_4 4), (D_4 5), (D_4 6)] ++ [x50, x51, x52, x52, undef, undef, undef, undef, undef, undef, undef]).toArray, []⟩) (by kernel_rfl) ?_
                refine ls_skip (d := some 56) (by kernel_rfl) (by rw [hb_2]; kernel_rfl) ?_
                refine ls_pick_f (y := (.bool false)) (by kernel_rfl) (by rw [hb_2]; kernel_rfl) (by kernel_rfl) ?_
                refine ls_nil ?_
                refine then_normal ?_
                exact ⟨(fun i => ([undef, undef, undef]).getD i undef), (.bool false), by kernel_rfl, HA_7, H⟩
              · rintro _ w_8 ⟨D_5, x57, rfl, HA_8, H⟩
                refine ls_move (x := x57) (by kernel_rfl) (by kernel_rfl) ?_
                refine ls_andh [(), ()] (fun K a w => ∃ (D_6 : Nat → Value) (x60 : Value) (h_7 : Heap), a = ⟨([x0, x1, x2, undef, (D_1 0), x5, x6, x7, x1, x9, x10, x10, (D 0), (D 1), (D 2), x15, undef, x5, x1, x19, x20, (D_1 5), (D_1 6), (D_1 7), (D_1 8), (D_1 9), (D_1 10), (D_1 11), (D_1 12), (D_1 13), (D_1 14), (D_1 15), (D_1 16), (D_1 17), (D_1 18), (D_1 19), (D_3 0), (D_3 1), (D_3 2), (D_3 3), (D_3 4), (D_3 5), (D_3 6), (D_4 0), (D_4 1), (D_4 2), (D_4 3), (D_4 4), (D_4 5), (D_4 6)] ++ [x50, x51, x52, x52, (D_5 0), (D_5 1), (D_5 2), x57, x57, (D_6 0), x60]).toArray, []⟩ ∧ At w0 w h_7 ∧ K x60 h_7) H (fun hb_1 H => ?_) (fun hb_1 H => ?_) ?_
                · refine ls_d (d := some 59) (by kernel_rfl) (by rw [hb_1]; kernel_rfl) HA_8 (d_call (by kernel_rfl) (by kernel_rfl) H) (fun x59 h_8 w_10 H HA_10 => ?_)
                  refine ls_pick_t (x := x59) (by kernel_rfl) (by rw [hb_1]; kernel_rfl) (by kernel_rfl) ?_
                  refine ls_nil ?_
                  refine then_normal ?_
                  exact ⟨(fun i => ([x59]).getD i undef), x59, h_8, by kernel_rfl, HA_10, H⟩
                · refine ls_skip (d := some 59) (by kernel_rfl) (by rw [hb_1]; kernel_rfl) ?_
                  refine ls_pick_f (y := (.bool false)) (by kernel_rfl) (by rw [hb_1]; kernel_rfl) (by kernel_rfl) ?_
                  refine ls_nil ?_
                  refine then_normal ?_
                  exact ⟨(fun i => ([undef]).getD i undef), (.bool false), h_6, by kernel_rfl, HA_8, H⟩
                · rintro _ w_9 ⟨D_6, x60, h_7, rfl, HA_9, H⟩
                  refine ls_assign (x := x60) (by kernel_rfl) (by kernel_rfl) ?_
                  refine ls_nil ?_
                  refine then_normal ?_
                  refine fr_eq (b := ⟨([x0, x1, x2, undef, x60, x5, x6, x7, x1, x9, x10, x10, (D 0), (D 1), (D 2), x15, undef, x5, x1, x19, x20, (D_1 5), (D_1 6), (D_1 7), (D_1 8), (D_1 9), (D_1 10), (D_1 11), (D_1 12), (D_1 13), (D_1 14), (D_1 15), (D_1 16), (D_1 17), (D_1 18), (D_1 19), (D_3 0), (D_3 1), (D_3 2), (D_3 3), (D_3 4), (D_3 5), (D_3 6), (D_4 0), (D_4 1), (D_4 2), (D_4 3), (D_4 4), (D_4 5), (D_4 6)] ++ [x50, x51, x52, x52, (D_5 0), (D_5 1), (D_5 2), x57, x57, (D_6 0), x60]).toArray, []⟩) (by kernel_rfl) ?_
                  refine wp_ret ?_
                  exact end1 (Try.results4) (by kernel_rfl) (by kernel_rfl) HA_9 H _ (.inr rfl)

end Go.Proofs.Ytkagmlpnidijaaa
