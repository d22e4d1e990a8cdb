/- Texts in one. -/
import Derived.Test.YtmhhjpfkipficaaDoorKw3
section
/- The shallow reading of one function, and that the function does it. Written by a program. -/
set_option linter.unusedVariables false
namespace Go.Proofs.YtmhhjpfkipficaaDoor
open Go Go.HW _root_.Go.Proofs.Tryd

def screen_Screen_Put_j4 (R : Value → Heap → Prop) (x0 x7 x9 : Value) (h_6 : Heap) : Prop :=
  sNil x9 fun x120 =>
  sOff x120 0 fun x121 =>
  sLd h_6 x121 fun x122 =>
  sNil x9 fun x125 =>
  sOff x125 1 fun x126 =>
  sLd h_6 x126 fun x127 =>
  screen_Screen_part_c x0 x122 x7 x127 h_6 fun x128 h_7 => 
  sNil x9 fun x130 =>
  sOff x130 0 fun x131 =>
  sLd h_7 x131 fun x132 =>
  sAdd .i64 x132 x7 fun x134 =>
  sNil x9 fun x135 =>
  sOff x135 0 fun x136 =>
  sSt h_7 x136 x134 fun h_8 => 
  sNil x9 fun x138 =>
  sOff x138 2 fun x139 =>
  sSt h_8 x139 (.bool false) fun h_9 => 
  sNil x9 fun x141 =>
  sOff x141 0 fun x142 =>
  sLd h_9 x142 fun x143 =>
  sNil x0 fun x145 =>
  sOff x145 1 fun x146 =>
  sLd h_9 x146 fun x147 =>
  sEq x143 x147 fun x148 =>
  sIf x148 (sNil x9 fun x150 =>
  sOff x150 0 fun x151 =>
  sLd h_9 x151 fun x152 =>
  sSub .i64 x152 (.int .i64 1) fun x153 =>
  sNil x9 fun x154 =>
  sOff x154 0 fun x155 =>
  sSt h_9 x155 x153 fun h_10 => 
  sNil x0 fun x158 =>
  sOff x158 17 fun x159 =>
  sLd h_10 x159 fun x160 =>
  sNil x9 fun x161 =>
  sOff x161 2 fun x162 =>
  sSt h_10 x162 x160 fun h_11 => 
  R unit h_11) (R unit h_9)
def screen_Screen_Put_j3 (R : Value → Heap → Prop) (x0 x1 x7 x9 : Value) (h_4 : Heap) : Prop :=
  sNil x0 fun x77 =>
  sOff x77 0 fun x78 =>
  sLd h_4 x78 fun x79 =>
  sNil x9 fun x81 =>
  sOff x81 0 fun x82 =>
  sLd h_4 x82 fun x83 =>
  sNil x9 fun x85 =>
  sOff x85 1 fun x86 =>
  sLd h_4 x86 fun x87 =>
  sNil x0 fun x90 =>
  sOff x90 3 fun x91 =>
  sOff x91 3 fun x92 =>
  sLdN h_4 x92 3 fun x93 =>
  sBuild #[.int .i32 0, .int .i64 0, .int .i64 0, .int .i64 0] [(0, 1, x1), (1, 3, x93)] fun x94 =>
  grid_Grid_Set_c x79 x83 x87 x94 h_4 fun x95 h_5 => 
  sEq x7 (.int .i64 2) fun x97 =>
  sIf x97 (sNil x0 fun x99 =>
  sOff x99 0 fun x100 =>
  sLd h_5 x100 fun x101 =>
  sNil x9 fun x103 =>
  sOff x103 0 fun x104 =>
  sLd h_5 x104 fun x105 =>
  sAdd .i64 x105 (.int .i64 1) fun x106 =>
  sNil x9 fun x108 =>
  sOff x108 1 fun x109 =>
  sLd h_5 x109 fun x110 =>
  sNil x0 fun x112 =>
  sOff x112 3 fun x113 =>
  sOff x113 3 fun x114 =>
  sLdN h_5 x114 3 fun x115 =>
  sBuild #[.int .i32 0, .int .i64 0, .int .i64 0, .int .i64 0] [(0, 1, (.int .i32 (-1))), (1, 3, x115)] fun x116 =>
  grid_Grid_Set_c x101 x106 x110 x116 h_5 fun x117 h_12 => 
  screen_Screen_Put_j4 R x0 x7 x9 h_12) (screen_Screen_Put_j4 R x0 x7 x9 h_5)
def screen_Screen_Put_j2 (R : Value → Heap → Prop) (x0 x1 x7 x9 : Value) (h_3 : Heap) : Prop :=
  sNil x0 fun x70 =>
  sOff x70 18 fun x71 =>
  sLd h_3 x71 fun x72 =>
  sIf x72 (screen_Screen_Cells_c x0 x7 (.bool true) h_3 fun x75 h_13 => 
  screen_Screen_Put_j3 R x0 x1 x7 x9 h_13) (screen_Screen_Put_j3 R x0 x1 x7 x9 h_3)
def screen_Screen_Put_j1 (R : Value → Heap → Prop) (x0 x1 x7 x9 : Value) (h_2 : Heap) : Prop :=
  sNil x9 fun x33 =>
  sOff x33 0 fun x34 =>
  sLd h_2 x34 fun x35 =>
  sAdd .i64 x35 x7 fun x37 =>
  sNil x0 fun x39 =>
  sOff x39 1 fun x40 =>
  sLd h_2 x40 fun x41 =>
  sGt x37 x41 fun x42 =>
  sAnd x42 (fun k =>
  sNil x0 fun x45 =>
  sOff x45 17 fun x46 =>
  sLd h_2 x46 fun x47 =>
  k x47) fun x48 =>
  sIf x48 (screen_Screen_wrapped_c x0 h_2 fun x50 h_14 => 
  screen_Screen_Put_j2 R x0 x1 x7 x9 h_14) (sNil x9 fun x52 =>
  sOff x52 0 fun x53 =>
  sLd h_2 x53 fun x54 =>
  sAdd .i64 x54 x7 fun x56 =>
  sNil x0 fun x58 =>
  sOff x58 1 fun x59 =>
  sLd h_2 x59 fun x60 =>
  sGt x56 x60 fun x61 =>
  sIf x61 (sNil x9 fun x63 =>
  sOff x63 0 fun x64 =>
  sLd h_2 x64 fun x65 =>
  sSub .i64 x65 (.int .i64 1) fun x66 =>
  sNil x9 fun x67 =>
  sOff x67 0 fun x68 =>
  sSt h_2 x68 x66 fun h_15 => 
  screen_Screen_Put_j2 R x0 x1 x7 x9 h_15) (screen_Screen_Put_j2 R x0 x1 x7 x9 h_2))
def screen_Screen_Put_S (x0 x1 : Value) (h : Heap) (R : Value → Heap → Prop) : Prop :=
  wide_Width_c x1 h fun x7 h => 
  screen_Screen_cur_c x0 h fun x9 h_1 => 
  sLt x7 (.int .i64 1) fun x11 =>
  sOr x11 (fun k_2 =>
  sNil x0 fun x15 =>
  sOff x15 1 fun x16 =>
  sLd h_1 x16 fun x17 =>
  sGt x7 x17 fun x18 =>
  k_2 x18) fun x19 =>
  sIf x19 (R unit h_1) (sNil x9 fun x21 =>
  sOff x21 2 fun x22 =>
  sLd h_1 x22 fun x23 =>
  sAnd x23 (fun k_1 =>
  sNil x0 fun x26 =>
  sOff x26 17 fun x27 =>
  sLd h_1 x27 fun x28 =>
  k_1 x28) fun x29 =>
  sIf x29 (screen_Screen_wrapped_c x0 h_1 fun x31 h_16 => 
  screen_Screen_Put_j1 R x0 x1 x7 x9 h_16) (screen_Screen_Put_j1 R x0 x1 x7 x9 h_1))
set_option maxRecDepth 100000 in
theorem screen_Screen_Put_runs {x0 x1 : Value} {h : Heap} {R : Value → Heap → Prop} (H : screen_Screen_Put_S x0 x1 h R) : screen_Screen_Put_c x0 x1 h R := by
 unfold screen_Screen_Put_S at H
 refine runsof (b := (mk (Ap [x0,x1] 161))) call9 func9 rfl fun w0 HA => wp_seq (lwp_list ?_)
 refine lsmove x1 <| lsd 7 HA (dcall H) fun x7 h w H HA => lsmove x0 <| lsd 9 HA (dcall H) fun x9 h_1 w_1 H HA_1 => lsassign x7 <| lsassign x9 <| ls_nil (then_normal ?_)
 refine freq (mk (Ap [x0,x1,ud,ud,x7,x9,x1,x7,x0,x9] 153)) <| wp_seq <| wp_seq (lwp_list ?_)
 refine lsmove x7 <| lsp 11 (psLt H) fun x11 H => lsmove x11 <| ls_or [(),(),(),(),(),(),()] (fun K a w => ∃ (D : Nat → Value) (x19 : Value),a = (mk ([x0,x1,ud,ud,x7,x9,x1,x7,x0,x9,x7,x11,x11] ++ (Ad D 0 6 (Ap [x19] 143)))) ∧ At w0 w h_1 ∧ K x19) H (fun hb_2 H => ?_) (fun hb_2 H => ?_) ?_
 ·refine lsmove (hg := by rw [hb_2]; kernel_rfl) x7 <| lsmove (hg := by rw [hb_2]; kernel_rfl) x0 <| lsp (hg := by rw [hb_2]; kernel_rfl) 15 (pnil H) fun x15 H => lsp (hg := by rw [hb_2]; kernel_rfl) 16 (poff underlying64 rfl sizeOf3 rfl H) fun x16 H => lsy (hg := by rw [hb_2]; kernel_rfl) 17 HA_1 (yld isAgg3 H) fun x17 H => lsp (hg := by rw [hb_2]; kernel_rfl) 18 (psGt H) fun x18 H => lspickf x18 (by rw [hb_2]; kernel_rfl) <| ls_nil (then_normal ?_)
  exact ⟨(gd ([x7,x0,x15,x16,x17,x18])),x18,by kernel_rfl,HA_1,H⟩
 ·refine lsskip (hg := by rw [hb_2]; kernel_rfl) 13 <| lsskip (hg := by rw [hb_2]; kernel_rfl) 14 <| lsskip (hg := by rw [hb_2]; kernel_rfl) 15 <| lsskip (hg := by rw [hb_2]; kernel_rfl) 16 <| lsskip (hg := by rw [hb_2]; kernel_rfl) 17 <| lsskip (hg := by rw [hb_2]; kernel_rfl) 18 <| lspickt (.bool true) (by rw [hb_2]; kernel_rfl) <| ls_nil (then_normal ?_)
  exact ⟨(gd (Ap [] 6)),(.bool true),by kernel_rfl,HA_1,H⟩
 ·rintro _ w_2 ⟨D,x19,rfl,HA_2,H⟩
  refine ls_nil (then_normal ?_)
  refine freq (mk ([x0,x1,ud,ud,x7,x9,x1,x7,x0,x9,x7,x11,x11] ++ (Ad D 0 6 (Ap [x19] 143)))) <| wp_if rfl H (fun H => ?_) (fun H => ?_)
  ·refine wp_ret <| then_ret <| end0 (results9) (by kernel_rfl) HA_2 H _ (.inr rfl)
  ·refine wp_skip <| then_normal <| freq (mk ([x0,x1,ud,ud,x7,x9,x1,x7,x0,x9,x7,x11,x11] ++ (Ad D 0 6 (Ap [x19] 143)))) <| wp_seq <| wp_seq (lwp_list ?_)
   refine lsmove x9 <| lsp 21 (pnil H) fun x21 H => lsp 22 (poff underlying38 rfl sizeOf4 rfl H) fun x22 H => lsy 23 HA_2 (yld isAgg4 H) fun x23 H => lsmove x23 <| ls_and [(),(),(),(),()] (fun K a w => ∃ (D_1 : Nat → Value) (x29 : Value),a = (mk ([x0,x1,ud,ud,x7,x9,x1,x7,x0,x9,x7,x11,x11] ++ (Ad D 0 6 ([x19,x9,x21,x22,x23,x23] ++ (Ad D_1 0 4 (Ap [x29] 133)))))) ∧ At w0 w h_1 ∧ K x29) H (fun hb_1 H => ?_) (fun hb_1 H => ?_) ?_
   ·refine lsmove (hg := by rw [hb_1]; kernel_rfl) x0 <| lsp (hg := by rw [hb_1]; kernel_rfl) 26 (pnil H) fun x26 H => lsp (hg := by rw [hb_1]; kernel_rfl) 27 (poff underlying64 rfl sizeOf4 rfl H) fun x27 H => lsy (hg := by rw [hb_1]; kernel_rfl) 28 HA_2 (yld isAgg4 H) fun x28 H => lspickt x28 (by rw [hb_1]; kernel_rfl) <| ls_nil (then_normal ?_)
    exact ⟨(gd ([x0,x26,x27,x28])),x28,by kernel_rfl,HA_2,H⟩
   ·refine lsskip (hg := by rw [hb_1]; kernel_rfl) 25 <| lsskip (hg := by rw [hb_1]; kernel_rfl) 26 <| lsskip (hg := by rw [hb_1]; kernel_rfl) 27 <| lsskip (hg := by rw [hb_1]; kernel_rfl) 28 <| lspickf (.bool false) (by rw [hb_1]; kernel_rfl) <| ls_nil (then_normal ?_)
    exact ⟨(gd ([ud,ud,ud,ud])),(.bool false),by kernel_rfl,HA_2,H⟩
   ·rintro _ w_3 ⟨D_1,x29,rfl,HA_3,H⟩
    refine ls_nil (then_normal ?_)
    refine freq (mk ([x0,x1,ud,ud,x7,x9,x1,x7,x0,x9,x7,x11,x11] ++ (Ad D 0 6 ([x19,x9,x21,x22,x23,x23] ++ (Ad D_1 0 4 (Ap [x29] 133)))))) <| wp_join (fun a w => ∃ (D_2 : Nat → Value) (h_2 : Heap),a = (mk ([x0,x1,ud,ud,x7,x9,x1,x7,x0,x9,x7,x11,x11] ++ (Ad D 0 6 ([x19,x9,x21,x22,x23,x23] ++ (Ad D_1 0 4 (Ap [x29,(D_2 0),(D_2 1)] 131)))))) ∧ At w0 w h_2 ∧ screen_Screen_Put_j1 R x0 x1 x7 x9 h_2) ?_ ?_
    ·refine wp_if rfl H (fun H => ?_) (fun H => ?_)
     ·refine lwp_list <| lsmove x0 <| lsd 31 HA_3 (dcall H) fun x31 h_16 w_24 H HA_24 => ls_nil <| ⟨(gd ([x0,x31])),h_16,by kernel_rfl,HA_24,H⟩
     ·refine wp_skip <| ⟨(gd ([ud,ud])),h_1,by kernel_rfl,HA_3,H⟩
    ·rintro _ w_4 ⟨D_2,h_2,rfl,HA_4,H⟩
     unfold screen_Screen_Put_j1 at H
     refine then_normal <| freq (mk ([x0,x1,ud,ud,x7,x9,x1,x7,x0,x9,x7,x11,x11] ++ (Ad D 0 6 ([x19,x9,x21,x22,x23,x23] ++ (Ad D_1 0 4 (Ap [x29,(D_2 0),(D_2 1)] 131)))))) <| wp_seq <| wp_seq <| lwpqt HA_4 <| lqmove x9 <| lqp 33 (pnil H) fun x33 H => lqp 34 (poff underlying38 rfl sizeOf3 rfl H) fun x34 H => lqy 35 HA_4 (yld isAgg3 H) fun x35 H => lqmove x7 <| lqp 37 (padd H) fun x37 H => lqmove x0 <| lqp 39 (pnil H) fun x39 H => lqp 40 (poff underlying64 rfl sizeOf3 rfl H) (fun x40 H => ?_)
     refine lqy 41 HA_4 (yld isAgg3 H) fun x41 H => lqp 42 (psGt H) fun x42 H => lqmove x42 <| lq_and [(),(),(),(),()] (fun K a => ∃ (D_3 : Nat → Value) (x48 : Value),a = (mk ([x0,x1,ud,ud,x7,x9,x1,x7,x0,x9,x7,x11,x11] ++ (Ad D 0 6 ([x19,x9,x21,x22,x23,x23] ++ (Ad D_1 0 4 ([x29,(D_2 0),(D_2 1),x9,x33,x34,x35,x7,x37,x0,x39,x40,x41,x42,x42] ++ (Ad D_3 0 4 (Ap [x48] 114)))))))) ∧ K x48) H (fun hb H => ?_) (fun hb H => ?_) ?_
     ·refine lqmove (hg := by rw [hb]; kernel_rfl) x0 <| lqp (hg := by rw [hb]; kernel_rfl) 45 (pnil H) fun x45 H => lqp (hg := by rw [hb]; kernel_rfl) 46 (poff underlying64 rfl sizeOf4 rfl H) fun x46 H => lqy (hg := by rw [hb]; kernel_rfl) 47 HA_4 (yld isAgg4 H) fun x47 H => lqpickt x47 (by rw [hb]; kernel_rfl) <| lq_nil <| ⟨(gd ([x0,x45,x46,x47])),x47,by kernel_rfl,H⟩
     ·refine lqskip 44 (by rw [hb]; kernel_rfl) <| lqskip 45 (by rw [hb]; kernel_rfl) <| lqskip 46 (by rw [hb]; kernel_rfl) <| lqskip 47 (by rw [hb]; kernel_rfl) <| lqpickf (.bool false) (by rw [hb]; kernel_rfl) <| lq_nil <| ⟨(gd ([ud,ud,ud,ud])),(.bool false),by kernel_rfl,H⟩
     ·rintro _ ⟨D_3,x48,rfl,H⟩
      refine lq_nil fun w_5 HA_5 => then_normal <| freq (mk ([x0,x1,ud,ud,x7,x9,x1,x7,x0,x9,x7,x11,x11] ++ (Ad D 0 6 ([x19,x9,x21,x22,x23,x23] ++ (Ad D_1 0 4 ([x29,(D_2 0),(D_2 1),x9,x33,x34,x35,x7,x37,x0,x39,x40,x41,x42,x42] ++ (Ad D_3 0 4 (Ap [x48] 114)))))))) <| wp_join (fun a w => ∃ (D_4 : Nat → Value) (h_3 : Heap),a = (mk ([x0,x1,ud,ud,x7,x9,x1,x7,x0,x9,x7,x11,x11] ++ (Ad D 0 6 ([x19,x9,x21,x22,x23,x23] ++ (Ad D_1 0 4 ([x29,(D_2 0),(D_2 1),x9,x33,x34,x35,x7,x37,x0,x39,x40,x41,x42,x42] ++ (Ad D_3 0 4 ([x48] ++ (Ad D_4 0 20 (Ap [] 94)))))))))) ∧ At w0 w h_3 ∧ screen_Screen_Put_j2 R x0 x1 x7 x9 h_3) ?_ ?_
      ·refine wp_if rfl H (fun H => ?_) (fun H => ?_)
       ·refine lwp_list <| lsmove x0 <| lsd 50 HA_5 (dcall H) fun x50 h_14 w_21 H HA_21 => ls_nil <| ⟨(gd (Ap [x0,x50] 18)),h_14,by kernel_rfl,HA_21,H⟩
       ·refine wp_seq <| lwpqt HA_5 <| lqmove x9 <| lqp 52 (pnil H) fun x52 H => lqp 53 (poff underlying38 rfl sizeOf3 rfl H) fun x53 H => lqy 54 HA_5 (yld isAgg3 H) fun x54 H => lqmove x7 <| lqp 56 (padd H) fun x56 H => lqmove x0 <| lqp 58 (pnil H) fun x58 H => lqp 59 (poff underlying64 rfl sizeOf3 rfl H) fun x59 H => lqy 60 HA_5 (yld isAgg3 H) fun x60 H => lqp 61 (psGt H) fun x61 H => lq_nil ?_
        intro w_22 HA_22
        refine then_normal <| freq (mk ([x0,x1,ud,ud,x7,x9,x1,x7,x0,x9,x7,x11,x11] ++ (Ad D 0 6 ([x19,x9,x21,x22,x23,x23] ++ (Ad D_1 0 4 ([x29,(D_2 0),(D_2 1),x9,x33,x34,x35,x7,x37,x0,x39,x40,x41,x42,x42] ++ (Ad D_3 0 4 (Ap [x48,ud,ud,x9,x52,x53,x54,x7,x56,x0,x58,x59,x60,x61] 101)))))))) <| wp_if rfl H (fun H => ?_) (fun H => ?_)
        ·refine lwp_list <| lsmove x9 <| lsp 63 (pnil H) fun x63 H => lsp 64 (poff underlying38 rfl sizeOf3 rfl H) fun x64 H => lsy 65 HA_22 (yld isAgg3 H) fun x65 H => lsp 66 (psub H) fun x66 H => lsp 67 (pnil H) fun x67 H => lsp 68 (poff underlying38 rfl sizeOf3 rfl H) fun x68 H => lsdn HA_22 (dstw sizeOf3 H) fun _ h_15 w_23 H HA_23 => ls_nil <| ⟨(gd ([ud,ud,x9,x52,x53,x54,x7,x56,x0,x58,x59,x60,x61,x9,x63,x64,x65,x66,x67,x68])),h_15,by kernel_rfl,HA_23,H⟩
        ·refine wp_skip <| ⟨(gd (Ap [ud,ud,x9,x52,x53,x54,x7,x56,x0,x58,x59,x60,x61] 7)),h_2,by kernel_rfl,HA_22,H⟩
      ·rintro _ w_6 ⟨D_4,h_3,rfl,HA_6,H⟩
       unfold screen_Screen_Put_j2 at H
       refine then_normal <| freq (mk ([x0,x1,ud,ud,x7,x9,x1,x7,x0,x9,x7,x11,x11] ++ (Ad D 0 6 ([x19,x9,x21,x22,x23,x23] ++ (Ad D_1 0 4 ([x29,(D_2 0),(D_2 1),x9,x33,x34,x35,x7,x37,x0,x39,x40,x41,x42,x42] ++ (Ad D_3 0 4 ([x48] ++ (Ad D_4 0 20 (Ap [] 94)))))))))) <| wp_seq <| wp_seq (lwp_list ?_)
       refine lsmove x0 <| lsp 70 (pnil H) fun x70 H => lsp 71 (poff underlying64 rfl sizeOf4 rfl H) fun x71 H => lsy 72 HA_6 (yld isAgg4 H) fun x72 H => ls_nil (then_normal ?_)
       refine freq (mk ([x0,x1,ud,ud,x7,x9,x1,x7,x0,x9,x7,x11,x11] ++ (Ad D 0 6 ([x19,x9,x21,x22,x23,x23] ++ (Ad D_1 0 4 ([x29,(D_2 0),(D_2 1),x9,x33,x34,x35,x7,x37,x0,x39,x40,x41,x42,x42] ++ (Ad D_3 0 4 ([x48] ++ (Ad D_4 0 20 (Ap [x0,x70,x71,x72] 90)))))))))) <| wp_join (fun a w => ∃ (D_5 : Nat → Value) (h_4 : Heap),a = (mk ([x0,x1,ud,ud,x7,x9,x1,x7,x0,x9,x7,x11,x11] ++ (Ad D 0 6 ([x19,x9,x21,x22,x23,x23] ++ (Ad D_1 0 4 ([x29,(D_2 0),(D_2 1),x9,x33,x34,x35,x7,x37,x0,x39,x40,x41,x42,x42] ++ (Ad D_3 0 4 ([x48] ++ (Ad D_4 0 20 (Ap [x0,x70,x71,x72,(D_5 0),(D_5 1),(D_5 2)] 87)))))))))) ∧ At w0 w h_4 ∧ screen_Screen_Put_j3 R x0 x1 x7 x9 h_4) ?_ ?_
       ·refine wp_if rfl H (fun H => ?_) (fun H => ?_)
        ·refine lwp_list <| lsmove x0 <| lsmove x7 <| lsd 75 HA_6 (dcall H) fun x75 h_13 w_20 H HA_20 => ls_nil <| ⟨(gd ([x0,x7,x75])),h_13,by kernel_rfl,HA_20,H⟩
        ·refine wp_skip <| ⟨(gd ([ud,ud,ud])),h_3,by kernel_rfl,HA_6,H⟩
       ·rintro _ w_7 ⟨D_5,h_4,rfl,HA_7,H⟩
        unfold screen_Screen_Put_j3 at H
        refine then_normal <| freq (mk ([x0,x1,ud,ud,x7,x9,x1,x7,x0,x9,x7,x11,x11] ++ (Ad D 0 6 ([x19,x9,x21,x22,x23,x23] ++ (Ad D_1 0 4 ([x29,(D_2 0),(D_2 1),x9,x33,x34,x35,x7,x37,x0,x39,x40,x41,x42,x42] ++ (Ad D_3 0 4 ([x48] ++ (Ad D_4 0 20 (Ap [x0,x70,x71,x72,(D_5 0),(D_5 1),(D_5 2)] 87)))))))))) <| wp_seq <| lwpmx (Nat.testBit 524288) (Nat.testBit 0) (Nat.testBit 391031) [0,1,3,7,0,16,48,112,0,256,768,1792,0,0,8192,24576,57344,122880,258048,524287] (Nat.testBit 0) (fun h' => h' = h_4) [0,1,2,3,4,5,6,7,8,9,10,11,12,13,14,15,16,17,18,19] HA_7 rfl fun w_8 HA_8 => lmal x0 76 rfl (almove) <| lmp 77 rfl (pnil H) fun x77 H => lmp 78 rfl (poff underlying64 rfl sizeOf54 rfl H) fun x78 H => lmf 79 rfl (of_eq (yld isAgg54 H)) fun x79 H => lmal x9 80 rfl (almove) <| lmp 81 rfl (pnil H) fun x81 H => lmp 82 rfl (poff underlying38 rfl sizeOf3 rfl H) fun x82 H => lmf 83 rfl (of_eq (yld isAgg3 H)) fun x83 H => lmal x9 84 rfl (almove) ?_
        refine lmp 85 rfl (pnil H) fun x85 H => lmp 86 rfl (poff underlying38 rfl sizeOf3 rfl H) fun x86 H => lmf 87 rfl (of_eq (yld isAgg3 H)) fun x87 H => lmal x1 88 rfl (almove) <| lmal x0 89 rfl (almove) <| lmp 90 rfl (pnil H) fun x90 H => lmp 91 rfl (poff underlying64 rfl sizeOf61 rfl H) fun x91 H => lmp 92 rfl (poff underlying61 rfl sizeOf29 rfl H) fun x92 H => lmf 93 rfl (of_eq (yldn isAgg29 sizeOf29 H)) fun x93 H => lmp 94 rfl (plit (pl := [(0,1),(1,3)]) zeroValue31 underlying31 ⟨(by kernel_rfl),sizeOf21,(by kernel_rfl),sizeOf29,trivial⟩ H) fun x94 H => lmd 95 rfl HA_8 (dcall H) fun x95 h_5 w_9 H HA_9 => lm_nil <| then_normal <| freq (mk ([x0,x1,ud,ud,x7,x9,x1,x7,x0,x9,x7,x11,x11] ++ (Ad D 0 6 ([x19,x9,x21,x22,x23,x23] ++ (Ad D_1 0 4 ([x29,(D_2 0),(D_2 1),x9,x33,x34,x35,x7,x37,x0,x39,x40,x41,x42,x42] ++ (Ad D_3 0 4 ([x48] ++ (Ad D_4 0 20 (Ap [x0,x70,x71,x72,(D_5 0),(D_5 1),(D_5 2),x0,x77,x78,x79,x9,x81,x82,x83,x9,x85,x86,x87,x1,x0,x90,x91,x92,x93,x94,x95] 67)))))))))) ?_
        refine wp_seq <| wp_seq (lwp_list ?_)
        refine lsmove x7 <| lsp 97 (psEq H) fun x97 H => ls_nil (then_normal ?_)
        refine freq (mk ([x0,x1,ud,ud,x7,x9,x1,x7,x0,x9,x7,x11,x11] ++ (Ad D 0 6 ([x19,x9,x21,x22,x23,x23] ++ (Ad D_1 0 4 ([x29,(D_2 0),(D_2 1),x9,x33,x34,x35,x7,x37,x0,x39,x40,x41,x42,x42] ++ (Ad D_3 0 4 ([x48] ++ (Ad D_4 0 20 (Ap [x0,x70,x71,x72,(D_5 0),(D_5 1),(D_5 2),x0,x77,x78,x79,x9,x81,x82,x83,x9,x85,x86,x87,x1,x0,x90,x91,x92,x93,x94,x95,x7,x97] 65)))))))))) <| wp_join (fun a w => ∃ (D_6 : Nat → Value) (h_6 : Heap),a = (mk ([x0,x1,ud,ud,x7,x9,x1,x7,x0,x9,x7,x11,x11] ++ (Ad D 0 6 ([x19,x9,x21,x22,x23,x23] ++ (Ad D_1 0 4 ([x29,(D_2 0),(D_2 1),x9,x33,x34,x35,x7,x37,x0,x39,x40,x41,x42,x42] ++ (Ad D_3 0 4 ([x48] ++ (Ad D_4 0 20 ([x0,x70,x71,x72,(D_5 0),(D_5 1),(D_5 2),x0,x77,x78,x79,x9,x81,x82,x83,x9,x85,x86,x87,x1,x0,x90,x91,x92,x93,x94,x95,x7,x97] ++ (Ad D_6 0 20 (Ap [] 45)))))))))))) ∧ At w0 w h_6 ∧ screen_Screen_Put_j4 R x0 x7 x9 h_6) ?_ ?_
        ·refine wp_if rfl H (fun H => ?_) (fun H => ?_)
         ·refine lwpmx (Nat.testBit 524288) (Nat.testBit 0) (Nat.testBit 388983) [0,1,3,7,0,16,48,112,240,0,512,1536,3584,0,8192,24576,57344,122880,253952,524287] (Nat.testBit 0) (fun h' => h' = h_5) [0,1,2,3,4,5,6,7,8,9,10,11,12,13,14,15,16,17,18,19] HA_9 rfl fun w_18 HA_18 => lmal x0 98 rfl (almove) <| lmp 99 rfl (pnil H) fun x99 H => lmp 100 rfl (poff underlying64 rfl sizeOf54 rfl H) fun x100 H => lmf 101 rfl (of_eq (yld isAgg54 H)) fun x101 H => lmal x9 102 rfl (almove) <| lmp 103 rfl (pnil H) fun x103 H => lmp 104 rfl (poff underlying38 rfl sizeOf3 rfl H) fun x104 H => lmf 105 rfl (of_eq (yld isAgg3 H)) fun x105 H => lmp 106 rfl (padd H) fun x106 H => lmal x9 107 rfl (almove) <| lmp 108 rfl (pnil H) fun x108 H => lmp 109 rfl (poff underlying38 rfl sizeOf3 rfl H) (fun x109 H => ?_)
          refine lmf 110 rfl (of_eq (yld isAgg3 H)) fun x110 H => lmal x0 111 rfl (almove) <| lmp 112 rfl (pnil H) fun x112 H => lmp 113 rfl (poff underlying64 rfl sizeOf61 rfl H) fun x113 H => lmp 114 rfl (poff underlying61 rfl sizeOf29 rfl H) fun x114 H => lmf 115 rfl (of_eq (yldn isAgg29 sizeOf29 H)) fun x115 H => lmp 116 rfl (plit (pl := [(0,1),(1,3)]) zeroValue31 underlying31 ⟨(by kernel_rfl),sizeOf21,(by kernel_rfl),sizeOf29,trivial⟩ H) fun x116 H => lmd 117 rfl HA_18 (dcall H) fun x117 h_12 w_19 H HA_19 => lm_nil <| ⟨(gd ([x0,x99,x100,x101,x9,x103,x104,x105,x106,x9,x108,x109,x110,x0,x112,x113,x114,x115,x116,x117])),h_12,by kernel_rfl,HA_19,H⟩
         ·refine wp_skip <| ⟨(gd (Ap [] 20)),h_5,by kernel_rfl,HA_9,H⟩
        ·rintro _ w_10 ⟨D_6,h_6,rfl,HA_10,H⟩
         unfold screen_Screen_Put_j4 at H
         refine then_normal <| freq (mk ([x0,x1,ud,ud,x7,x9,x1,x7,x0,x9,x7,x11,x11] ++ (Ad D 0 6 ([x19,x9,x21,x22,x23,x23] ++ (Ad D_1 0 4 ([x29,(D_2 0),(D_2 1),x9,x33,x34,x35,x7,x37,x0,x39,x40,x41,x42,x42] ++ (Ad D_3 0 4 ([x48] ++ (Ad D_4 0 20 ([x0,x70,x71,x72,(D_5 0),(D_5 1),(D_5 2),x0,x77,x78,x79,x9,x81,x82,x83,x9,x85,x86,x87,x1,x0,x90,x91,x92,x93,x94,x95,x7,x97] ++ (Ad D_6 0 20 (Ap [] 45)))))))))))) <| wp_seq <| lwpmx (Nat.testBit 1024) (Nat.testBit 0) (Nat.testBit 495) [0,0,2,6,14,0,0,64,192,448,1023] (Nat.testBit 0) (fun h' => h' = h_6) [0,1,2,3,4,5,6,7,8,9,10] HA_10 rfl fun w_11 HA_11 => lmal x0 118 rfl (almove) <| lmal x9 119 rfl (almove) <| lmp 120 rfl (pnil H) fun x120 H => lmp 121 rfl (poff underlying38 rfl sizeOf3 rfl H) fun x121 H => lmf 122 rfl (of_eq (yld isAgg3 H)) fun x122 H => lmal x7 123 rfl (almove) <| lmal x9 124 rfl (almove) <| lmp 125 rfl (pnil H) fun x125 H => lmp 126 rfl (poff underlying38 rfl sizeOf3 rfl H) (fun x126 H => ?_)
         refine lmf 127 rfl (of_eq (yld isAgg3 H)) fun x127 H => lmd 128 rfl HA_11 (dcall H) fun x128 h_7 w_12 H HA_12 => lm_nil <| then_normal <| freq (mk ([x0,x1,ud,ud,x7,x9,x1,x7,x0,x9,x7,x11,x11] ++ (Ad D 0 6 ([x19,x9,x21,x22,x23,x23] ++ (Ad D_1 0 4 ([x29,(D_2 0),(D_2 1),x9,x33,x34,x35,x7,x37,x0,x39,x40,x41,x42,x42] ++ (Ad D_3 0 4 ([x48] ++ (Ad D_4 0 20 ([x0,x70,x71,x72,(D_5 0),(D_5 1),(D_5 2),x0,x77,x78,x79,x9,x81,x82,x83,x9,x85,x86,x87,x1,x0,x90,x91,x92,x93,x94,x95,x7,x97] ++ (Ad D_6 0 20 (Ap [x0,x9,x120,x121,x122,x7,x9,x125,x126,x127,x128] 34)))))))))))) <| wp_seq (lwp_list ?_)
         refine lsmove x9 <| lsp 130 (pnil H) fun x130 H => lsp 131 (poff underlying38 rfl sizeOf3 rfl H) fun x131 H => lsy 132 HA_12 (yld isAgg3 H) fun x132 H => lsmove x7 <| lsp 134 (padd H) fun x134 H => lsp 135 (pnil H) fun x135 H => lsp 136 (poff underlying38 rfl sizeOf3 rfl H) fun x136 H => lsdn HA_12 (dstw sizeOf3 H) fun _ h_8 w_13 H HA_13 => ls_nil (then_normal ?_)
         refine freq (mk ([x0,x1,ud,ud,x7,x9,x1,x7,x0,x9,x7,x11,x11] ++ (Ad D 0 6 ([x19,x9,x21,x22,x23,x23] ++ (Ad D_1 0 4 ([x29,(D_2 0),(D_2 1),x9,x33,x34,x35,x7,x37,x0,x39,x40,x41,x42,x42] ++ (Ad D_3 0 4 ([x48] ++ (Ad D_4 0 20 ([x0,x70,x71,x72,(D_5 0),(D_5 1),(D_5 2),x0,x77,x78,x79,x9,x81,x82,x83,x9,x85,x86,x87,x1,x0,x90,x91,x92,x93,x94,x95,x7,x97] ++ (Ad D_6 0 20 (Ap [x0,x9,x120,x121,x122,x7,x9,x125,x126,x127,x128,x9,x130,x131,x132,x7,x134,x135,x136] 26)))))))))))) <| wp_seq (lwp_list ?_)
         refine lsmove x9 <| lsp 138 (pnil H) fun x138 H => lsp 139 (poff underlying38 rfl sizeOf4 rfl H) fun x139 H => lsdn HA_13 (dstw sizeOf4 H) fun _ h_9 w_14 H HA_14 => ls_nil (then_normal ?_)
         refine freq (mk ([x0,x1,ud,ud,x7,x9,x1,x7,x0,x9,x7,x11,x11] ++ (Ad D 0 6 ([x19,x9,x21,x22,x23,x23] ++ (Ad D_1 0 4 ([x29,(D_2 0),(D_2 1),x9,x33,x34,x35,x7,x37,x0,x39,x40,x41,x42,x42] ++ (Ad D_3 0 4 ([x48] ++ (Ad D_4 0 20 ([x0,x70,x71,x72,(D_5 0),(D_5 1),(D_5 2),x0,x77,x78,x79,x9,x81,x82,x83,x9,x85,x86,x87,x1,x0,x90,x91,x92,x93,x94,x95,x7,x97] ++ (Ad D_6 0 20 (Ap [x0,x9,x120,x121,x122,x7,x9,x125,x126,x127,x128,x9,x130,x131,x132,x7,x134,x135,x136,x9,x138,x139] 23)))))))))))) <| wp_seq <| lwpqt HA_14 <| lqmove x9 <| lqp 141 (pnil H) fun x141 H => lqp 142 (poff underlying38 rfl sizeOf3 rfl H) fun x142 H => lqy 143 HA_14 (yld isAgg3 H) fun x143 H => lqmove x0 <| lqp 145 (pnil H) fun x145 H => lqp 146 (poff underlying64 rfl sizeOf3 rfl H) fun x146 H => lqy 147 HA_14 (yld isAgg3 H) fun x147 H => lqp 148 (psEq H) fun x148 H => lq_nil fun w_15 HA_15 => ?_
         refine then_normal <| freq (mk ([x0,x1,ud,ud,x7,x9,x1,x7,x0,x9,x7,x11,x11] ++ (Ad D 0 6 ([x19,x9,x21,x22,x23,x23] ++ (Ad D_1 0 4 ([x29,(D_2 0),(D_2 1),x9,x33,x34,x35,x7,x37,x0,x39,x40,x41,x42,x42] ++ (Ad D_3 0 4 ([x48] ++ (Ad D_4 0 20 ([x0,x70,x71,x72,(D_5 0),(D_5 1),(D_5 2),x0,x77,x78,x79,x9,x81,x82,x83,x9,x85,x86,x87,x1,x0,x90,x91,x92,x93,x94,x95,x7,x97] ++ (Ad D_6 0 20 (Ap [x0,x9,x120,x121,x122,x7,x9,x125,x126,x127,x128,x9,x130,x131,x132,x7,x134,x135,x136,x9,x138,x139,x9,x141,x142,x143,x0,x145,x146,x147,x148] 14)))))))))))) <| wp_if rfl H (fun H => ?_) (fun H => ?_)
         ·refine wp_seq (lwp_list ?_)
          refine lsmove x9 <| lsp 150 (pnil H) fun x150 H => lsp 151 (poff underlying38 rfl sizeOf3 rfl H) fun x151 H => lsy 152 HA_15 (yld isAgg3 H) fun x152 H => lsp 153 (psub H) fun x153 H => lsp 154 (pnil H) fun x154 H => lsp 155 (poff underlying38 rfl sizeOf3 rfl H) fun x155 H => lsdn HA_15 (dstw sizeOf3 H) fun _ h_10 w_16 H HA_16 => ls_nil (then_normal ?_)
          refine freq (mk ([x0,x1,ud,ud,x7,x9,x1,x7,x0,x9,x7,x11,x11] ++ (Ad D 0 6 ([x19,x9,x21,x22,x23,x23] ++ (Ad D_1 0 4 ([x29,(D_2 0),(D_2 1),x9,x33,x34,x35,x7,x37,x0,x39,x40,x41,x42,x42] ++ (Ad D_3 0 4 ([x48] ++ (Ad D_4 0 20 ([x0,x70,x71,x72,(D_5 0),(D_5 1),(D_5 2),x0,x77,x78,x79,x9,x81,x82,x83,x9,x85,x86,x87,x1,x0,x90,x91,x92,x93,x94,x95,x7,x97] ++ (Ad D_6 0 20 (Ap [x0,x9,x120,x121,x122,x7,x9,x125,x126,x127,x128,x9,x130,x131,x132,x7,x134,x135,x136,x9,x138,x139,x9,x141,x142,x143,x0,x145,x146,x147,x148,x9,x150,x151,x152,x153,x154,x155] 7)))))))))))) <| lwp_list <| lsmove x9 <| lsmove x0 <| lsp 158 (pnil H) fun x158 H => lsp 159 (poff underlying64 rfl sizeOf4 rfl H) fun x159 H => lsy 160 HA_16 (yld isAgg4 H) fun x160 H => lsp 161 (pnil H) fun x161 H => lsp 162 (poff underlying38 rfl sizeOf4 rfl H) fun x162 H => lsdn HA_16 (dstw sizeOf4 H) fun _ h_11 w_17 H HA_17 => ls_nil <| end0 (results9) (by kernel_rfl) HA_17 H _ (.inl rfl)
         ·refine wp_skip <| end0 (results9) (by kernel_rfl) HA_15 H _ (.inl rfl)

end Go.Proofs.YtmhhjpfkipficaaDoor


end

section
/- Screens: what is erased, put in, taken out, put. -/
set_option linter.unusedSimpArgs false
set_option linter.unusedVariables false
namespace Go.Proofs.YtmhhjpfkipficaaDoor
open Go Go.HW

/-- Every cell's rune is one. -/
def I32 (r : Int) : Prop := -2147483648 ≤ r ∧ r ≤ 2147483647
def IC (C : Cel) : Prop := ∀ a b, I32 (C a b).r
theorem i32_0 : I32 0 := ⟨by decide, by decide⟩
theorem i32_m1 : I32 (-1) := ⟨by decide, by decide⟩
theorem IC_set {C : Cel} {w g x y : Int} {c : Ce} (i : IC C) (h : I32 c.r) : IC (setF C w g x y c) := fun a b => by unfold setF; split; exact h; exact i a b
theorem IC_fill {C : Cel} {w g : Int} {r : Rc} {c : Ce} (h : c.r = 0) (i : IC C) : IC (fillF C w g r c) := fun a b => by
  unfold fillF; split
  · rw [h]; exact i32_0
  · exact i a b
theorem IC_copy {C : Cel} {w g : Int} {r : Rc} {x y : Int} (i : IC C) : IC (copyF C w g r x y) := fun a b => by unfold copyF; split <;> exact i _ _
theorem IC_mended {C D : Cel} {w y : Int} (i : IC C) (md : Mended C D w y) : IC D := fun a b => by
  by_cases e : b = y
  · subst e
    rcases md.same a with h | h
    · rw [h]; exact i a b
    · rw [h]; exact i32_0
  · rw [md.other a b e]; exact i a b
/-- A row alone changes, and stays whole. -/
structure RowTo (C D : Cel) (w y : Int) : Prop where
  other : ∀ a b, b ≠ y → D a b = C a b
  whole : wholeR C w y → wholeR D w y
  rng : IC C → IC D
theorem RowTo.refl (C : Cel) (w y : Int) : RowTo C C w y := ⟨fun _ _ _ => rfl, id, id⟩
theorem wholeR_congr {C D : Cel} {w y : Int} (h : ∀ a, D a y = C a y) (z : wholeR C w y) : wholeR D w y := fun x h0 h1 => by
  rw [h, h, h]; exact z x h0 h1
theorem RowTo.all {C D : Cel} {w g y : Int} (r : RowTo C D w y) (z : wholeC C w g) : wholeC D w g := fun b h0 h1 => by
  by_cases e : b = y
  · subst e; exact r.whole (z b h0 h1)
  · exact wholeR_congr (fun a => r.other a b e) (z b h0 h1)
theorem fill_other {C : Cel} {w g f y n : Int} {bl : Ce} {a b : Int} (h : b ≠ y) : fillF C w g ⟨f, y, n, 1⟩ bl a b = C a b := by
  unfold fillF Rc.has; rw [if_neg]; simp only; omega
def lineFrom (m : Sc) (kind : Int) : Int := if kind = 0 then m.x else 0
def lineTo (m : Sc) (kind : Int) : Int := if kind = 1 then m.x + 1 else m.w
def partC (C : Cel) (w g x n y : Int) : Cel :=
  let C1 := if 0 < x ∧ two (C (x - 1) y).r = true then setF C w g (x - 1) y (C (x - 1) y).clr else C
  if (C1 (x + n) y).r = -1 then setF C1 w g (x + n) y (C1 (x + n) y).clr else C1
def Sc.cell (m : Sc) (r : Int) : Ce := ⟨r, m.pf, m.pb, m.pg⟩
def putC (m : Sc) (C : Cel) (r : Int) : Cel :=
  let C1 := setF C m.w m.g m.x m.y (m.cell r)
  partC (if wt r = 2 then setF C1 m.w m.g (m.x + 1) m.y (m.cell (-1)) else C1) m.w m.g m.x (wt r) m.y
def stepM (m : Sc) (r : Int) : Sc := if m.x + wt r = m.w then { m with x := m.x + wt r - 1, late := m.wrap } else { m with x := m.x + wt r, late := false }
def putM1 (m : Sc) : Sc := if (m.late && m.wrap) = true then wrapM m else m
def putC1 (m : Sc) (C : Cel) : Cel := if (m.late && m.wrap) = true then lineC m C else C
def putO1 (m : Sc) (C : Cel) (off : List (List Ce)) : List (List Ce) := if (m.late && m.wrap) = true then lineO m C off else off
theorem setF_ne {C : Cel} {w g x y a b : Int} {c : Ce} (h : ¬(a = x ∧ b = y)) : setF C w g x y c a b = C a b := by unfold setF; rw [if_neg (fun z => h z.2)]
theorem setF_eq {C : Cel} {w g x y : Int} {c : Ce} (h : inG w g x y = true) : setF C w g x y c x y = c := by unfold setF; rw [if_pos ⟨h, rfl, rfl⟩]
/-- What a row is behind a put. -/
theorem put_at {m : Sc} {C : Cel} {r a b : Int} (hy : 0 ≤ m.y ∧ m.y < m.g) (hx : 0 ≤ m.x ∧ m.x + wt r ≤ m.w) (hr : wt r = 1 ∨ wt r = 2) (ho : ∀ x y, ¬ inG m.w m.g x y = true → C x y = ce0) :
    putC m C r a b = if b = m.y then (if a = m.x then m.cell r else if wt r = 2 ∧ a = m.x + 1 then m.cell (-1) else if a = m.x - 1 ∧ 0 < m.x ∧ two (C a b).r = true then (C a b).clr else if a = m.x + wt r ∧ (C a b).r = -1 then (C a b).clr else C a b) else C a b := by
  have i0 : inG m.w m.g m.x m.y = true := inG_iff.2 ⟨by omega, hy⟩
  have hin : wt r = 2 → inG m.w m.g (m.x + 1) m.y = true := fun h => inG_iff.2 ⟨by omega, hy⟩
  have hin2 : ∀ z, (C z m.y).r ≠ 0 → inG m.w m.g z m.y = true := fun z hz => by
    apply Classical.byContradiction; intro hh; rw [ho z _ hh] at hz; exact hz rfl
  generalize hP : (if wt r = 2 then setF (setF C m.w m.g m.x m.y (m.cell r)) m.w m.g (m.x + 1) m.y (m.cell (-1)) else setF C m.w m.g m.x m.y (m.cell r)) = P
  have P0 : ∀ z y, ¬(z = m.x ∧ y = m.y) → ¬(wt r = 2 ∧ z = m.x + 1 ∧ y = m.y) → P z y = C z y := fun z y h1 h2 => by
    rw [← hP]; split
    · rename_i h; rw [setF_ne (fun e => h2 ⟨h, e⟩), setF_ne h1]
    · rw [setF_ne h1]
  have Px : P m.x m.y = m.cell r := by
    rw [← hP]; split
    · rw [setF_ne (by omega), setF_eq i0]
    · rw [setF_eq i0]
  have Px1 : wt r = 2 → P (m.x + 1) m.y = m.cell (-1) := fun h => by rw [← hP, if_pos h, setF_eq (hin h)]
  unfold putC partC
  try simp only []
  rw [hP]
  generalize hQ : (if 0 < m.x ∧ two (P (m.x - 1) m.y).r = true then setF P m.w m.g (m.x - 1) m.y (P (m.x - 1) m.y).clr else P) = Q
  have Pm : P (m.x - 1) m.y = C (m.x - 1) m.y := P0 _ _ (by omega) (by omega)
  have Q0 : ∀ z y, ¬(z = m.x - 1 ∧ y = m.y) → Q z y = P z y := fun z y h => by
    rw [← hQ]; split
    · rw [setF_ne h]
    · rfl
  have Qm : Q (m.x - 1) m.y = if 0 < m.x ∧ two (C (m.x - 1) m.y).r = true then (C (m.x - 1) m.y).clr else C (m.x - 1) m.y := by
    rw [← hQ, Pm]; split
    · rename_i h
      rw [setF_eq (hin2 _ (fun e => by have := two_iff.1 h.2; rw [e, wt_low (by omega)] at this; omega))]
    · exact Pm
  have Qn : Q (m.x + wt r) m.y = C (m.x + wt r) m.y := by rw [Q0 _ _ (by omega), P0 _ _ (by omega) (by omega)]
  rw [Qn]
  have main : (if (C (m.x + wt r) m.y).r = -1 then setF Q m.w m.g (m.x + wt r) m.y (C (m.x + wt r) m.y).clr else Q) a b = if a = m.x + wt r ∧ b = m.y ∧ (C a b).r = -1 then (C a b).clr else Q a b := by
    by_cases h : (C (m.x + wt r) m.y).r = -1
    · rw [if_pos h]
      by_cases h2 : a = m.x + wt r ∧ b = m.y
      · obtain ⟨rfl, rfl⟩ := h2
        rw [setF_eq (hin2 _ (by rw [h]; decide)), if_pos ⟨rfl, rfl, h⟩]
      · rw [setF_ne h2, if_neg (fun x => h2 ⟨x.1, x.2.1⟩)]
    · rw [if_neg h, if_neg (fun x => h (by rw [← x.1, ← x.2.1]; exact x.2.2))]
  rw [main]
  by_cases hb : b = m.y
  · subst hb
    rw [if_pos rfl]
    by_cases h1 : a = m.x
    · subst h1
      rw [if_pos rfl, if_neg (by omega), Q0 _ _ (by omega), Px]
    · rw [if_neg h1]
      by_cases h2 : wt r = 2 ∧ a = m.x + 1
      · obtain ⟨h2, rfl⟩ := h2
        rw [if_pos (c := wt r = 2 ∧ m.x + 1 = m.x + 1) ⟨h2, rfl⟩, if_neg (by omega), Q0 _ _ (by omega), Px1 h2]
      · rw [if_neg h2]
        by_cases h3 : a = m.x - 1
        · subst h3
          rw [if_neg (by omega), Qm]
          by_cases h4 : 0 < m.x ∧ two (C (m.x - 1) m.y).r = true
          · rw [if_pos h4, if_pos ⟨rfl, h4⟩]
          · rw [if_neg h4, if_neg (fun x => h4 x.2), if_neg (by omega)]
        · rw [if_neg (c := a = m.x - 1 ∧ 0 < m.x ∧ two (C a m.y).r = true) (fun x => h3 x.1), Q0 _ _ (fun x => h3 x.1), P0 _ _ (fun x => h1 x.1) (fun x => h2 ⟨x.1, x.2.1⟩)]
          simp only [true_and]
  · rw [if_neg hb, if_neg (fun x => hb x.2.1), Q0 _ _ (fun x => hb x.2), P0 _ _ (fun x => hb x.2) (fun x => hb x.2.2)]
theorem wt_m1 : wt (-1) = -1 := wt_low (by decide)
theorem wt_0 : wt 0 = -1 := wt_low (by decide)
theorem IC_part {C : Cel} {w g x n y : Int} (i : IC C) : IC (partC C w g x n y) := by
  have h1 : IC (if 0 < x ∧ two (C (x - 1) y).r = true then setF C w g (x - 1) y (C (x - 1) y).clr else C) := by
    split
    · exact IC_set i i32_0
    · exact i
  unfold partC
  simp only []
  generalize (if 0 < x ∧ two (C (x - 1) y).r = true then setF C w g (x - 1) y (C (x - 1) y).clr else C) = C1 at h1 ⊢
  split
  · exact IC_set h1 i32_0
  · exact h1
theorem IC_put {m : Sc} {C : Cel} {r : Int} (h : I32 r) (i : IC C) : IC (putC m C r) := by
  unfold putC
  refine IC_part ?_
  split
  · exact IC_set (IC_set i h) i32_m1
  · exact IC_set i h
theorem put_row {m : Sc} {C : Cel} {r : Int} (hy : 0 ≤ m.y ∧ m.y < m.g) (hx : 0 ≤ m.x ∧ m.x + wt r ≤ m.w) (hr : wt r = 1 ∨ wt r = 2) (hI : I32 r) (ho : ∀ x y, ¬ inG m.w m.g x y = true → C x y = ce0) : RowTo C (putC m C r) m.w m.y := by
  refine ⟨fun a b hb => by rw [put_at hy hx hr ho, if_neg hb], fun hw x h0 h1 => ?_, IC_put hI⟩
  have P := fun a => put_at (a := a) (b := m.y) hy hx hr ho
  simp only [if_true] at P
  have hrm : r ≠ -1 := fun e => by rw [e, wt_m1] at hr; omega
  have c1 : (m.cell r).r = r := rfl
  have c2 : (m.cell (-1)).r = -1 := rfl
  have c3 : ∀ c : Ce, c.clr.r = 0 := fun _ => rfl
  have W := hw x h0 h1
  refine ⟨fun h => ?_, fun h => ?_⟩
  · rw [P x] at h
    by_cases a1 : x = m.x
    · rw [if_pos a1, c1] at h
      refine ⟨by omega, ?_⟩
      rw [P, if_neg (by omega), if_pos ⟨h, by omega⟩, c2]
    · rw [if_neg a1] at h
      by_cases a2 : wt r = 2 ∧ x = m.x + 1
      · rw [if_pos a2, c2, wt_m1] at h; omega
      · rw [if_neg a2] at h
        by_cases a3 : x = m.x - 1 ∧ 0 < m.x ∧ two (C x m.y).r = true
        · rw [if_pos a3, c3, wt_0] at h; omega
        · rw [if_neg a3] at h
          by_cases a4 : x = m.x + wt r ∧ (C x m.y).r = -1
          · rw [if_pos a4, c3, wt_0] at h; omega
          · rw [if_neg a4] at h
            have w1 := W.1 h
            refine ⟨w1.1, ?_⟩
            have b1 : x + 1 ≠ m.x := fun e => a3 ⟨by omega, by omega, two_iff.2 h⟩
            rw [P, if_neg b1, if_neg (by omega), if_neg (fun z => by have := two_iff.1 z.2.2; rw [w1.2, wt_m1] at this; omega), if_neg (fun z => by rcases hr with hr | hr <;> rw [hr] at z a2 <;> omega)]
            exact w1.2
  · rw [P x] at h
    by_cases a1 : x = m.x
    · rw [if_pos a1, c1] at h; exact (hrm h).elim
    · rw [if_neg a1] at h
      by_cases a2 : wt r = 2 ∧ x = m.x + 1
      · refine ⟨by omega, ?_⟩
        rw [P, if_pos (by omega), c1]; exact a2.1
      · rw [if_neg a2] at h
        by_cases a3 : x = m.x - 1 ∧ 0 < m.x ∧ two (C x m.y).r = true
        · rw [if_pos a3, c3] at h; omega
        · rw [if_neg a3] at h
          by_cases a4 : x = m.x + wt r ∧ (C x m.y).r = -1
          · rw [if_pos a4, c3] at h; omega
          · rw [if_neg a4] at h
            have w1 := W.2 h
            refine ⟨w1.1, ?_⟩
            have b4 : x ≠ m.x + wt r := fun e => a4 ⟨e, h⟩
            rw [P, if_neg (fun z => by rcases hr with hr | hr <;> rw [hr] at a2 b4 <;> omega), if_neg (fun z => by have := z.1; rw [this] at b4; omega), if_neg (by omega), if_neg (fun z => by have := w1.2; rw [z.2, wt_m1] at this; omega)]
            exact w1.2

section
variable {h0 h : Heap} {F : List HP} {R : Value → Heap → Prop} {k kg : Nat} {m : Sc} {C : Cel} {off : List (List Ce)} {y : Int}
theorem fillb {ov : Value} {rs : List (CV × List Ce)} {r : Rc} {J : Heap → Prop} (e : rs.map (·.2) = off) (es : m.st.length = 512) (so : HW.Sep h0 (Blk k (scL m kg ov).toArray 64 :: Gc kg m.w m.g C :: Sl encCV 1 ov (rs.map (·.1)) :: rowsP rs :: F) h) (H : ∀ h', HW.Sep h0 (Scr k m (fillF C m.w m.g r m.bl) off :: F) h' → J h') : screen_Screen_blank_c (ptr k 0) h fun x h1 => Hk k m kg ov h1 ∧ (grid_Grid_Fill_c (ptr kg 0) r.v x h1 fun _ h2 => J h2) := by
  refine blank_b so.has (fun h2 e2 => ⟨e2.has so.has, ?_⟩)
  exact gfill_spec (r := r) (so.ext' e2).b1 (fun n2 h3 s3 => H h3 (Sshut (kg := kg) (ov := ov) e es s3.b1))
theorem wipe_spec {f t : Int} (hG : G h0) (z : HW.Sep h0 (Scr k m C off :: F) h) (hy : 0 ≤ y ∧ y < m.g) (hf : 0 ≤ f ∧ f ≤ t ∧ t ≤ m.w) (H : ∀ D h', Mended (fillF C m.w m.g ⟨f, y, t - f, 1⟩ m.bl) D m.w y → HW.Sep h0 (Scr k m D off :: F) h' → R unit h') : screen_Screen_wipe_c (ptr k 0) (.int .i64 y) (.int .i64 f) (.int .i64 t) h R := by
  apply screen_Screen_wipe_runs
  unfold screen_Screen_wipe_S
  have sz := Ssz z
  obtain ⟨kg, ov, rs, e, es, so⟩ := Sopen z
  refine ⟨Hk k m kg ov, so.has, ?_⟩
  simp (disch := omega) only [ev_nil, ev_off, Nat.zero_add, (rdc so.has).r0, ev_sub, wrap_i64]
  refine build_intro (cs := (⟨f, y, t - f, 1⟩ : Rc).c) ⟨rfl, Nat.le_of_ble_eq_true rfl, rfl, Nat.le_of_ble_eq_true rfl, rfl, Nat.le_of_ble_eq_true rfl, rfl, Nat.le_of_ble_eq_true rfl, rfl⟩ ?_
  refine fillb (r := ⟨f, y, t - f, 1⟩) e es so (fun h2 s2 => ?_)
  exact mend_spec hG s2 hy H
theorem EraseLine_spec {kind : Int} (hG : G h0) (z : HW.Sep h0 (Scr k m C off :: F) h) (o : OkS m) (H0 : ¬(0 ≤ kind ∧ kind ≤ 2) → R unit h) (H : (0 ≤ kind ∧ kind ≤ 2) → ∀ D h', Mended (fillF C m.w m.g ⟨lineFrom m kind, m.y, lineTo m kind - lineFrom m kind, 1⟩ m.bl) D m.w m.y → HW.Sep h0 (Scr k m D off :: F) h' → R unit h') : screen_Screen_EraseLine_c (ptr k 0) (.int .i64 kind) h R := by
  apply screen_Screen_EraseLine_runs
  unfold screen_Screen_EraseLine_S
  unfold lineFrom lineTo at H
  have ox := o.x
  have ow := o.w
  refine cur_spec ?_
  simp (disch := omega) only [ev_nil, ev_off, Nat.add_zero, Nat.zero_add, Nat.reduceAdd, (rd z).r3, (rd z).r4, (rd z).r1, ev_add, wrap_i64, ev_eq, ev_if, beq_iff_eq]
  by_cases a0 : kind = 0
  · subst a0
    rw [if_pos rfl]
    exact wipe_spec hG z o.y (by omega) (fun D h' md s' => H (by decide) D h' md s')
  rw [if_neg a0]
  by_cases a1 : kind = 1
  · subst a1
    rw [if_pos rfl]
    exact wipe_spec hG z o.y (by omega) (fun D h' md s' => H (by decide) D h' md s')
  rw [if_neg a1]
  by_cases a2 : kind = 2
  · subst a2
    rw [if_pos rfl]
    exact wipe_spec hG z o.y (by omega) (fun D h' md s' => H (by decide) D h' md s')
  rw [if_neg a2]
  exact H0 (by omega)
def eraseC (m : Sc) (C : Cel) (kind : Int) : Cel :=
  let C1 := if kind ≠ 0 then fillF C m.w m.g ⟨0, 0, m.w, m.y⟩ m.bl else C
  if kind ≠ 1 then fillF C1 m.w m.g ⟨0, m.y + 1, m.w, m.g - m.y - 1⟩ m.bl else C1
theorem Erase_spec {kind : Int} (hG : G h0) (z : HW.Sep h0 (Scr k m C off :: F) h) (o : OkS m) (H0 : ¬(0 ≤ kind ∧ kind ≤ 2) → R unit h) (H : (0 ≤ kind ∧ kind ≤ 2) → ∀ D h', Mended (fillF (eraseC m C kind) m.w m.g ⟨lineFrom m kind, m.y, lineTo m kind - lineFrom m kind, 1⟩ m.bl) D m.w m.y → HW.Sep h0 (Scr k m D off :: F) h' → R unit h') : screen_Screen_Erase_c (ptr k 0) (.int .i64 kind) h R := by
  apply screen_Screen_Erase_runs
  unfold screen_Screen_Erase_S
  have og := o.g
  have oy := o.y
  simp only [ev_lt, ev_gt, ev_or_p, ev_if, Bool.or_eq_true, decide_eq_true_eq]
  by_cases hk : 0 ≤ kind ∧ kind ≤ 2
  · rw [if_neg (by omega)]
    have H := H hk
    unfold eraseC at H
    simp only [] at H
    refine cur_spec ?_
    have hj2 : ∀ (E : Cel) (h1 : Heap), HW.Sep h0 (Scr k m E off :: F) h1 → E = (if kind ≠ 1 then fillF (if kind ≠ 0 then fillF C m.w m.g ⟨0, 0, m.w, m.y⟩ m.bl else C) m.w m.g ⟨0, m.y + 1, m.w, m.g - m.y - 1⟩ m.bl else (if kind ≠ 0 then fillF C m.w m.g ⟨0, 0, m.w, m.y⟩ m.bl else C)) → screen_Screen_Erase_j2 R (ptr k 0) (.int .i64 kind) h1 := by
      intro E h1 s1 eE
      unfold screen_Screen_Erase_j2
      refine EraseLine_spec hG s1 o (fun hn => (hn hk).elim) (fun _ D h' md s' => H D h' (by rw [← eE]; exact md) s')
    have hj1 : ∀ (E : Cel) (h1 : Heap), HW.Sep h0 (Scr k m E off :: F) h1 → E = (if kind ≠ 0 then fillF C m.w m.g ⟨0, 0, m.w, m.y⟩ m.bl else C) → screen_Screen_Erase_j1 R (ptr k 0) (.int .i64 kind) (.int .i64 m.y) h1 := by
      intro E h1 s1 eE
      unfold screen_Screen_Erase_j1
      rw [ev_ne, ev_if]
      by_cases h1k : kind = 1
      · rw [if_neg (by simp [h1k])]
        exact hj2 E h1 s1 (by rw [if_neg (by simp [h1k])]; exact eE)
      · rw [if_pos (by simpa using h1k)]
        obtain ⟨kg, ov, rs, e, es, so⟩ := Sopen s1
        refine ⟨Hk k m kg ov, so.has, ?_⟩
        simp (disch := omega) only [ev_nil, ev_off, Nat.zero_add, (rdc so.has).r0, (rdc so.has).r1, (rdc so.has).r2, ev_sub, ev_add, wrap_i64]
        refine build_intro (cs := (⟨0, m.y + 1, m.w, m.g - m.y - 1⟩ : Rc).c) ⟨rfl, Nat.le_of_ble_eq_true rfl, rfl, Nat.le_of_ble_eq_true rfl, rfl, Nat.le_of_ble_eq_true rfl, rfl⟩ ?_
        refine fillb (r := ⟨0, m.y + 1, m.w, m.g - m.y - 1⟩) e es so (fun h2 s2 => ?_)
        exact hj2 _ h2 s2 (by rw [if_pos h1k, eE])
    simp only [ev_nil, ev_off, Nat.zero_add, Nat.reduceAdd, (rd z).r4, ev_ne, ev_if]
    by_cases h0k : kind = 0
    · rw [if_neg (by simp [h0k])]
      exact hj1 C h z (by rw [if_neg (by simp [h0k])])
    · rw [if_pos (by simpa using h0k)]
      obtain ⟨kg, ov, rs, e, es, so⟩ := Sopen z
      refine ⟨Hk k m kg ov, so.has, ?_⟩
      simp (disch := omega) only [ev_nil, ev_off, Nat.zero_add, (rdc so.has).r0, (rdc so.has).r1, (rdc so.has).r2, ev_sub, ev_add, wrap_i64]
      refine build_intro (cs := (⟨0, 0, m.w, m.y⟩ : Rc).c) ⟨rfl, Nat.le_of_ble_eq_true rfl, rfl, Nat.le_of_ble_eq_true rfl, rfl⟩ ?_
      refine fillb (r := ⟨0, 0, m.w, m.y⟩) e es so (fun h2 s2 => ?_)
      exact hj1 _ h2 s2 (by rw [if_pos h0k])
  · rw [if_pos (by omega)]
    exact H0 hk
theorem mended_row {C E D : Cel} {w y : Int} (md : Mended E D w y) (h : ∀ a b, b ≠ y → E a b = C a b) (hi : IC C → IC E) : RowTo C D w y := ⟨fun a b hb => by rw [md.other a b hb, h a b hb], fun _ => md.whole, fun i => IC_mended (hi i) md⟩
theorem Cells_spec0 {n : Int} {ins : Bool} (hG : G h0) (z : HW.Sep h0 (Scr k m C off :: F) h) (ow : 1 ≤ m.w ∧ m.w ≤ 512) (og : 1 ≤ m.g ∧ m.g ≤ 512) (ox : 0 ≤ m.x ∧ m.x < m.w) (oy : 0 ≤ m.y ∧ m.y < m.g) (H : ∀ D h', RowTo C D m.w m.y → HW.Sep h0 (Scr k { m with late := false } D off :: F) h' → R unit h') : screen_Screen_Cells_c (ptr k 0) (.int .i64 n) (.bool ins) h R := by
  apply screen_Screen_Cells_runs
  unfold screen_Screen_Cells_S
  refine cur_spec ?_
  simp only [ev_nil, ev_off, Nat.zero_add, Nat.reduceAdd, Nat.add_zero]
  refine st5 z (fun h1 s1 => ?_)
  simp (disch := omega) only [(rd s1).r1, (rd s1).r3, (rd s1).r4, ev_sub, wrap_i64, ev_min]
  rw [show (if m.w - m.x < n then m.w - m.x else n) = mnI n (m.w - m.x) from rfl]
  have hq : mnI n (m.w - m.x) ≤ m.w - m.x := by unfold mnI; split <;> omega
  generalize mnI n (m.w - m.x) = q at hq ⊢
  rw [ev_lt, ev_if]
  by_cases hl : q < 1
  · rw [if_pos (decide_eq_true hl)]
    exact H C h1 (RowTo.refl _ _ _) s1
  rw [if_neg (by simpa using hl)]
  simp (disch := omega) only [ev_sub, ev_add, wrap_i64, ev_if]
  obtain ⟨kg, ov, rs, e, es, so⟩ := Sopen s1
  have f0 : ∀ {K : Value → Prop}, sLd h1 (ptr k 0) K = K (ptr kg 0) := ldL so.has rfl
  simp only [f0]
  cases ins with
  | true =>
    rw [if_pos rfl]
    refine build_intro (cs := (⟨m.x, m.y, m.w - m.x - q, 1⟩ : Rc).c) ⟨rfl, Nat.le_of_ble_eq_true rfl, rfl, Nat.le_of_ble_eq_true rfl, rfl, Nat.le_of_ble_eq_true rfl, rfl, Nat.le_of_ble_eq_true rfl, rfl⟩ ?_
    refine gcopy_spec (r := ⟨m.x, m.y, m.w - m.x - q, 1⟩) so.b1 (by simp only; omega) (by simp only; omega) (by simp only; omega) (fun n1 h2 s2 => ?_)
    have s3 := Sshut e es s2.b1
    simp only [(rd s3).r4, (rd s3).r3]
    refine wipe_spec hG s3 oy (by simp only; omega) (fun D h' md s' => H D h' (mended_row md (fun a b hb => ?_) (fun i => IC_fill rfl (IC_copy i))) s')
    rw [fill_other hb]
    unfold copyF; simp only; rw [if_neg (by omega)]
  | false =>
    rw [if_neg (by decide)]
    refine build_intro (cs := (⟨m.x + q, m.y, m.w - m.x - q, 1⟩ : Rc).c) ⟨rfl, Nat.le_of_ble_eq_true rfl, rfl, Nat.le_of_ble_eq_true rfl, rfl, Nat.le_of_ble_eq_true rfl, rfl, Nat.le_of_ble_eq_true rfl, rfl⟩ ?_
    refine gcopy_spec (r := ⟨m.x + q, m.y, m.w - m.x - q, 1⟩) so.b1 (by simp only; omega) (by simp only; omega) (by simp only; omega) (fun n1 h2 s2 => ?_)
    have s3 := Sshut e es s2.b1
    simp (disch := omega) only [(rd s3).r4, (rd s3).r1, ev_sub, wrap_i64]
    refine wipe_spec hG s3 oy (by simp only; omega) (fun D h' md s' => H D h' (mended_row md (fun a b hb => ?_) (fun i => IC_fill rfl (IC_copy i))) s')
    rw [fill_other hb]
    unfold copyF; simp only; rw [if_neg (by omega)]
theorem Cells_spec {n : Int} {ins : Bool} (hG : G h0) (z : HW.Sep h0 (Scr k m C off :: F) h) (o : OkS m) (H : ∀ D h', RowTo C D m.w m.y → HW.Sep h0 (Scr k { m with late := false } D off :: F) h' → R unit h') : screen_Screen_Cells_c (ptr k 0) (.int .i64 n) (.bool ins) h R := Cells_spec0 hG z o.w o.g o.x o.y H
theorem Lines_spec {n : Int} {ins : Bool} (z : HW.Sep h0 (Scr k m C off :: F) h) (o : OkS m) (H0 : ∀ h', HW.Sep h0 (Scr k { m with late := false } C off :: F) h' → R unit h') (H1 : m.top ≤ m.y ∧ m.y ≤ m.bot → ∀ h', HW.Sep h0 (Scr k { m with late := false, x := 0 } (if ins = true then downC m C m.y n else (if mnI n (m.bot - m.y + 1) < 1 then C else upF C m.w m.g m.y m.bot (mnI n (m.bot - m.y + 1)) m.bl)) off :: F) h' → R unit h') : screen_Screen_Lines_c (ptr k 0) (.int .i64 n) (.bool ins) h R := by
  apply screen_Screen_Lines_runs
  unfold screen_Screen_Lines_S
  have oy := o.y
  have ot := o.t
  refine cur_spec ?_
  simp only [ev_nil, ev_off, Nat.zero_add, Nat.reduceAdd, Nat.add_zero]
  refine st5 z (fun h1 s1 => ?_)
  simp only [(rd s1).r4, (rd s1).r19, (rd s1).r20, ev_lt, ev_gt, ev_or_p, ev_if, Bool.or_eq_true, decide_eq_true_eq]
  by_cases hc : (n < 1 ∨ m.y < m.top) ∨ m.y > m.bot
  · rw [if_pos hc]
    exact H0 h1 s1
  rw [if_neg hc]
  have H1 := H1 (by omega)
  refine st3 s1 (fun h2 s2 => ?_)
  simp only [(rd s2).r4]
  cases ins with
  | true =>
    rw [if_pos rfl] at H1 ⊢
    exact down_spec s2 (by simp only; omega) H1
  | false =>
    rw [if_neg (by decide)] at H1 ⊢
    exact up_spec s2 (by simp only; omega) H1
end
end Go.Proofs.YtmhhjpfkipficaaDoor


end

section
/- Screens: a rune is put. -/
set_option linter.unusedSimpArgs false
set_option linter.unusedVariables false
namespace Go.Proofs.YtmhhjpfkipficaaDoor
open Go Go.HW

section
variable {h0 h : Heap} {F : List HP} {R : Value → Heap → Prop} {k kg : Nat} {m : Sc} {C : Cel} {off : List (List Ce)} {y : Int}
theorem pen_ldn (z : HW.Sep h0 (Scr k m C off :: F) h) {K : Value → Prop} : sLdN h (ptr k 6) 3 K = K (.agg (penA m.pf m.pb m.pg)) := mldn z (cs := [.int .i64 m.pf, .int .i64 m.pb, .int .i64 m.pg]) (by decide) (fun _ _ => rfl)
theorem part_spec {x n : Int} (hG : G h0) (z : HW.Sep h0 (Scr k m C off :: F) h) (hy : 0 ≤ y ∧ y < m.g) (hx : 0 ≤ x ∧ x < m.w) (hn : 0 ≤ n ∧ n ≤ 2) (H : ∀ h', HW.Sep h0 (Scr k m (partC C m.w m.g x n y) off :: F) h' → R unit h') : screen_Screen_part_c (ptr k 0) (.int .i64 x) (.int .i64 n) (.int .i64 y) h R := by
  apply screen_Screen_part_runs
  unfold screen_Screen_part_S
  have sz := Ssz z
  unfold partC at H
  simp only [] at H
  have hj1 : ∀ (E : Cel) (h1 : Heap), E = (if 0 < x ∧ two (C (x - 1) y).r = true then setF C m.w m.g (x - 1) y (C (x - 1) y).clr else C) → HW.Sep h0 (Scr k m E off :: F) h1 → screen_Screen_part_j1 R (ptr k 0) (.int .i64 x) (.int .i64 n) (.int .i64 y) h1 := by
    intro E h1 eE s1
    unfold screen_Screen_part_j1
    rw [← eE] at H
    obtain ⟨kg, f0, zg⟩ := mg s1
    simp (disch := omega) only [ev_nil, ev_off, Nat.zero_add, f0, ev_add, wrap_i64]
    refine gat_spec (by unfold i64; omega) (by unfold i64; omega) zg (fun h2 e2 => ?_)
    refine (s1.ext' e2).new (fun b3 h3 s3 => ?_)
    refine s3.stall (cs := (E (x + n) y).a) rfl rfl (ce_cell _) (fun h4 s4 => ?_)
    have g0 : ∀ {K : Value → Prop}, sLd h4 (ptr b3 0) K = K (.int .i32 (E (x + n) y).r) := s4.ld rfl
    simp only [ev_off, Nat.zero_add, g0, ev_eq, ev_if, beq_iff_eq]
    by_cases hr : (E (x + n) y).r = -1
    · rw [if_pos hr] at H
      rw [if_pos hr]
      obtain ⟨kg4, f4, -⟩ := mg s4.b1
      simp only [f4]
      rw [s4.ldn (Nat.le_refl 4)]
      refine build_intro (cs := (E (x + n) y).clr.a) ⟨rfl, Nat.le_of_ble_eq_true rfl, rfl⟩ ?_
      exact Scr_set (by unfold i64; omega) (by unfold i64; omega) s4.b1 f4 (fun h5 s5 => H h5 s5.drop1)
    · rw [if_neg hr] at H
      rw [if_neg hr]
      exact H h4 s4.tail
  obtain ⟨kg, f0, zg⟩ := mg z
  simp (disch := omega) only [ev_nil, ev_off, Nat.zero_add, f0, ev_sub, wrap_i64]
  refine gat_spec (by unfold i64; omega) (by unfold i64; omega) zg (fun h2 e2 => ?_)
  refine (z.ext' e2).new (fun b3 h3 s3 => ?_)
  refine s3.stall (cs := (C (x - 1) y).a) rfl rfl (ce_cell _) (fun h4 s4 => ?_)
  have g0 : ∀ {K : Value → Prop}, sLd h4 (ptr b3 0) K = K (.int .i32 (C (x - 1) y).r) := s4.ld rfl
  simp only [ev_off, Nat.zero_add, g0, ev_gt, ev_and_p]
  refine and_ext (y := wt (C (x - 1) y).r == 2) (fun _ K' HK => ?_) (fun h5 e5 => ?_)
  · refine width_spec (hG.ext s4.ext) (fun h5 e5 => ?_)
    rw [ev_eq]
    exact HK h5 e5
  have s5 := s4.ext' e5
  rw [Bool.and_assoc, two_pos, ev_if]
  by_cases hc : 0 < x ∧ two (C (x - 1) y).r = true
  · rw [if_pos (by simp [hc])]
    obtain ⟨kg5, f5, -⟩ := mg s5.b1
    simp only [f5]
    rw [s5.ldn (Nat.le_refl 4)]
    refine build_intro (cs := (C (x - 1) y).clr.a) ⟨rfl, Nat.le_of_ble_eq_true rfl, rfl⟩ ?_
    exact Scr_set (by unfold i64; omega) (by unfold i64; omega) s5.b1 f5 (fun h6 s6 => hj1 _ h6 (by rw [if_pos hc]) s6.drop1)
  · rw [if_neg (by simpa using hc)]
    exact hj1 _ h5 (by rw [if_neg hc]) s5.tail
/-- What is put, where the cursor is. -/
theorem put_j3 {r : Int} (hG : G h0) (z : HW.Sep h0 (Scr k m C off :: F) h) (ow : 1 ≤ m.w ∧ m.w ≤ 512) (og : 1 ≤ m.g ∧ m.g ≤ 512) (oy : 0 ≤ m.y ∧ m.y < m.g) (ox : 0 ≤ m.x ∧ m.x + wt r ≤ m.w) (hr : wt r = 1 ∨ wt r = 2) (H : ∀ h', HW.Sep h0 (Scr k (stepM m r) (putC m C r) off :: F) h' → R unit h') : screen_Screen_Put_j3 R (ptr k 0) (.int .i32 r) (.int .i64 (wt r)) (ptr k 3) h := by
  unfold screen_Screen_Put_j3
  unfold putC at H
  simp only [] at H
  have hj4 : ∀ (E : Cel) (h1 : Heap), E = (if wt r = 2 then setF (setF C m.w m.g m.x m.y (m.cell r)) m.w m.g (m.x + 1) m.y (m.cell (-1)) else setF C m.w m.g m.x m.y (m.cell r)) → HW.Sep h0 (Scr k m E off :: F) h1 → screen_Screen_Put_j4 R (ptr k 0) (.int .i64 (wt r)) (ptr k 3) h1 := by
    intro E h1 eE s1
    unfold screen_Screen_Put_j4
    rw [← eE] at H
    simp only [ev_nil, ev_off, Nat.zero_add, Nat.add_zero, Nat.reduceAdd, (rd s1).r3, (rd s1).r4]
    refine part_spec hG s1 oy (by omega) (by omega) (fun h2 s2 => ?_)
    simp (disch := omega) only [(rd s2).r3, ev_add, wrap_i64]
    refine st3 s2 (fun h3 s3 => st5 s3 (fun h4 s4 => ?_))
    simp only [(rd s4).r3, (rd s4).r1, ev_eq, ev_if, beq_iff_eq]
    unfold stepM at H
    by_cases he : m.x + wt r = m.w
    · rw [if_pos he] at H
      rw [if_pos he]
      simp (disch := omega) only [ev_sub, wrap_i64]
      refine st3 s4 (fun h5 s5 => ?_)
      rw [(rd s5).r17]
      exact st5 s5 H
    · rw [if_neg he] at H
      rw [if_neg he]
      exact H h4 s4
  obtain ⟨kg, f0, -⟩ := mg z
  simp only [ev_nil, ev_off, Nat.zero_add, Nat.add_zero, Nat.reduceAdd, f0, (rd z).r3, (rd z).r4, pen_ldn z]
  refine build_intro (cs := (m.cell r).a) ⟨rfl, Nat.le_of_ble_eq_true rfl, rfl, Nat.le_of_ble_eq_true rfl, rfl⟩ ?_
  refine Scr_set (by unfold i64; omega) (by unfold i64; omega) z f0 (fun h1 s1 => ?_)
  rw [ev_eq, ev_if]
  by_cases h2 : wt r = 2
  · rw [if_pos (by simpa using h2)]
    obtain ⟨kg1, f1, -⟩ := mg s1
    simp (disch := omega) only [f1, (rd s1).r3, (rd s1).r4, pen_ldn s1, ev_add, wrap_i64]
    refine build_intro (cs := (m.cell (-1)).a) ⟨rfl, Nat.le_of_ble_eq_true rfl, rfl, Nat.le_of_ble_eq_true rfl, rfl⟩ ?_
    exact Scr_set (by unfold i64; omega) (by unfold i64; omega) s1 f1 (fun h2 s2 => hj4 _ h2 (by rw [if_pos (by assumption)]) s2)
  · rw [if_neg (by simpa using h2)]
    exact hj4 _ h1 (by rw [if_neg h2]) s1
/-- The plain way: without insertion. -/
theorem Put_plain {r : Int} (hG : G h0) (z : HW.Sep h0 (Scr k m C off :: F) h) (o : OkS m) (hb : off.length ≤ 900000) (hi : m.ins = false) (hr : wt r = 1) (H : ∀ h', HW.Sep h0 (Scr k (stepM (putM1 m) r) (putC (putM1 m) (putC1 m C) r) (putO1 m C off) :: F) h' → R unit h') : screen_Screen_Put_c (ptr k 0) (.int .i32 r) h R := by
  apply screen_Screen_Put_runs
  unfold screen_Screen_Put_S
  have ow := o.w
  have ox := o.x
  refine width_spec (hG.ext z.ext) (fun h1 e1 => ?_)
  have s1 := z.ext' e1
  refine cur_spec ?_
  simp only [ev_nil, ev_off, Nat.zero_add, Nat.add_zero, Nat.reduceAdd, (rd s1).r1, (rd s1).r5, (rd s1).r17, ev_lt, ev_gt, ev_or_p, ev_and_p, ev_if]
  rw [hr, if_neg (by simp; omega)]
  have hj1 : ∀ (m' : Sc) (C' : Cel) (off' : List (List Ce)) (h2 : Heap), m' = putM1 m → C' = putC1 m C → off' = putO1 m C off → m'.w = m.w → m'.g = m.g → m'.ins = false → (0 ≤ m'.x ∧ m'.x < m'.w) → (0 ≤ m'.y ∧ m'.y < m'.g) → HW.Sep h0 (Scr k m' C' off' :: F) h2 → screen_Screen_Put_j1 R (ptr k 0) (.int .i32 r) (.int .i64 1) (ptr k 3) h2 := by
    intro m' C' off' h2 em eC eo ew eg ei ex ey s2
    rw [← em, ← eC, ← eo] at H
    unfold screen_Screen_Put_j1
    simp (disch := omega) only [ev_nil, ev_off, Nat.zero_add, Nat.add_zero, (rd s2).r3, (rd s2).r1, (rd s2).r17, ev_add, wrap_i64, ev_gt, ev_and_p, ev_if]
    have hng : decide (m'.x + 1 > m'.w) = false := by simp; omega
    rw [hng, Bool.false_and, if_neg (by decide), if_neg (by decide)]
    unfold screen_Screen_Put_j2
    simp only [ev_nil, ev_off, Nat.zero_add, (rd s2).r18, ev_if, ei]
    rw [if_neg (by decide)]
    have := put_j3 (R := R) (r := r) hG s2 (by rw [ew]; exact o.w) (by rw [eg]; exact o.g) ey (by omega) (.inl hr) H
    rw [hr] at this
    exact this
  by_cases hl : (m.late && m.wrap) = true
  · rw [if_pos hl]
    refine wrapped_spec s1 o (by omega) (fun h2 s2 => ?_)
    refine hj1 _ _ _ h2 (by unfold putM1; rw [if_pos hl]) (by unfold putC1; rw [if_pos hl]) (by unfold putO1; rw [if_pos hl]) ?_ ?_ ?_ ?_ ?_ s2
    all_goals have := o.g; have := o.y; unfold wrapM lineM; simp only
    all_goals repeat' split
    all_goals first | rfl | exact hi | (simp only; omega)
  · rw [if_neg hl]
    exact hj1 m C off h1 (by unfold putM1; rw [if_neg hl]) (by unfold putC1; rw [if_neg hl]) (by unfold putO1; rw [if_neg hl]) rfl rfl hi o.x o.y s1
end
end Go.Proofs.YtmhhjpfkipficaaDoor


end

section
/- The shallow reading of one function, and that the function does it. Written by a program. -/
set_option linter.unusedVariables false
namespace Go.Proofs.YtmhhjpfkipficaaDoor
open Go Go.HW _root_.Go.Proofs.Tryd

def screen_New_l1 (R : Value → Heap → Prop) (x19 : Value) (next : Value → Heap → Prop) (x20 : Value) (h_2 : Heap) : Prop :=
  sLt x20 (.int .i64 512) fun x21 =>
  sIf x21 (screen_isStop_c x20 h_2 fun x26 h_3 => 
  sNil x19 fun x27 =>
  sOff x27 21 fun x28 =>
  sIxA x28 x20 512 1 fun x29 =>
  sSt h_3 x29 x26 fun h_4 => 
  sAdd .i64 x20 (.int .i64 1) fun x30 =>
  next x30 h_4) (R x19 h_2)
def screen_New_S (x0 x1 : Value) (h : Heap) (R : Value → Heap → Prop) : Prop :=
  grid_New_c x0 x1 h fun x10 h => 
  sEqlNil x10 fun x12 =>
  sIf x12 (R (.pointer none) h) (sSub .i64 x1 (.int .i64 1) fun x17 =>
  sBuild #[.pointer none, .int .i64 0, .int .i64 0, .int .i64 0, .int .i64 0, .bool false, .int .i64 0, .int .i64 0, .int .i64 0, .bool false, .int .i64 0, .int .i64 0, .bool false, .int .i64 0, .int .i64 0, .int .i64 0, .bool false, .bool false, .bool false, .int .i64 0, .int .i64 0, .bool false, .bool false, .bool false, .bool false, .bool false, .bool false, .bool false, .bool false, .bool false, .bool false, .bool false, .bool false, .bool false, .bool false, .bool false, .bool false, .bool false, .bool false, .bool false, .bool false, .bool false, .bool false, .bool false, .bool false, .bool false, .bool false, .bool false, .bool false, .bool false, .bool false, .bool false, .bool false, .bool false, .bool false, .bool false, .bool false, .bool false, .bool false, .bool false, .bool false, .bool false, .bool false, .bool false, .bool false, .bool false, .bool false, .bool false, .bool false, .bool false, .bool false, .bool false, .bool false, .bool false, .bool false, .bool false, .bool false, .bool false, .bool false, .bool false, .bool false, .bool false, .bool false, .bool false, .bool false, .bool false, .bool false, .bool false, .bool false, .bool false, .bool false, .bool false, .bool false, .bool false, .bool false, .bool false, .bool false, .bool false, .bool false, .bool false, .bool false, .bool false, .bool false, .bool false, .bool false, .bool false, .bool false, .bool false, .bool false, .bool false, .bool false, .bool false, .bool false, .bool false, .bool false, .bool false, .bool false, .bool false, .bool false, .bool false, .bool false, .bool false, .bool false, .bool false, .bool false, .bool false, .bool false, .bool false, .bool false, .bool false, .bool false, .bool false, .bool false, .bool false, .bool false, .bool false, .bool false, .bool false, .bool false, .bool false, .bool false, .bool false, .bool false, .bool false, .bool false, .bool false, .bool false, .bool false, .bool false, .bool false, .bool false, .bool false, .bool false, .bool false, .bool false, .bool false, .bool false, .bool false, .bool false, .bool false, .bool false, .bool false, .bool false, .bool false, .bool false, .bool false, .bool false, .bool false, .bool false, .bool false, .bool false, .bool false, .bool false, .bool false, .bool false, .bool false, .bool false, .bool false, .bool false, .bool false, .bool false, .bool false, .bool false, .bool false, .bool false, .bool false, .bool false, .bool false, .bool false, .bool false, .bool false, .bool false, .bool false, .bool false, .bool false, .bool false, .bool false, .bool false, .bool false, .bool false, .bool false, .bool false, .bool false, .bool false, .bool false, .bool false, .bool false, .bool false, .bool false, .bool false, .bool false, .bool false, .bool false, .bool false, .bool false, .bool false, .bool false, .bool false, .bool false, .bool false, .bool false, .bool false, .bool false, .bool false, .bool false, .bool false, .bool false, .bool false, .bool false, .bool false, .bool false, .bool false, .bool false, .bool false, .bool false, .bool false, .bool false, .bool false, .bool false, .bool false, .bool false, .bool false, .bool false, .bool false, .bool false, .bool false, .bool false, .bool false, .bool false, .bool false, .bool false, .bool false, .bool false, .bool false, .bool false, .bool false, .bool false, .bool false, .bool false, .bool false, .bool false, .bool false, .bool false, .bool false, .bool false, .bool false, .bool false, .bool false, .bool false, .bool false, .bool false, .bool false, .bool false, .bool false, .bool false, .bool false, .bool false, .bool false, .bool false, .bool false, .bool false, .bool false, .bool false, .bool false, .bool false, .bool false, .bool false, .bool false, .bool false, .bool false, .bool false, .bool false, .bool false, .bool false, .bool false, .bool false, .bool false, .bool false, .bool false, .bool false, .bool false, .bool false, .bool false, .bool false, .bool false, .bool false, .bool false, .bool false, .bool false, .bool false, .bool false, .bool false, .bool false, .bool false, .bool false, .bool false, .bool false, .bool false, .bool false, .bool false, .bool false, .bool false, .bool false, .bool false, .bool false, .bool false, .bool false, .bool false, .bool false, .bool false, .bool false, .bool false, .bool false, .bool false, .bool false, .bool false, .bool false, .bool false, .bool false, .bool false, .bool false, .bool false, .bool false, .bool false, .bool false, .bool false, .bool false, .bool false, .bool false, .bool false, .bool false, .bool false, .bool false, .bool false, .bool false, .bool false, .bool false, .bool false, .bool false, .bool false, .bool false, .bool false, .bool false, .bool false, .bool false, .bool false, .bool false, .bool false, .bool false, .bool false, .bool false, .bool false, .bool false, .bool false, .bool false, .bool false, .bool false, .bool false, .bool false, .bool false, .bool false, .bool false, .bool false, .bool false, .bool false, .bool false, .bool false, .bool false, .bool false, .bool false, .bool false, .bool false, .bool false, .bool false, .bool false, .bool false, .bool false, .bool false, .bool false, .bool false, .bool false, .bool false, .bool false, .bool false, .bool false, .bool false, .bool false, .bool false, .bool false, .bool false, .bool false, .bool false, .bool false, .bool false, .bool false, .bool false, .bool false, .bool false, .bool false, .bool false, .bool false, .bool false, .bool false, .bool false, .bool false, .bool false, .bool false, .bool false, .bool false, .bool false, .bool false, .bool false, .bool false, .bool false, .bool false, .bool false, .bool false, .bool false, .bool false, .bool false, .bool false, .bool false, .bool false, .bool false, .bool false, .bool false, .bool false, .bool false, .bool false, .bool false, .bool false, .bool false, .bool false, .bool false, .bool false, .bool false, .bool false, .bool false, .bool false, .bool false, .bool false, .bool false, .bool false, .bool false, .bool false, .bool false, .bool false, .bool false, .bool false, .bool false, .bool false, .bool false, .bool false, .bool false, .bool false, .bool false, .bool false, .bool false, .bool false, .bool false, .bool false, .bool false, .bool false, .bool false, .bool false, .bool false, .bool false, .bool false, .bool false, .bool false, .bool false, .bool false, .bool false, .bool false, .bool false, .bool false, .bool false, .bool false, .bool false, .bool false, .bool false, .bool false, .bool false, .bool false, .bool false, .bool false, .bool false, .bool false, .bool false, .bool false, .bool false, .bool false, .bool false, .bool false, .bool false, .bool false, .bool false, .bool false, .bool false, .bool false, .bool false, .bool false, .bool false, .bool false, .bool false, .bool false, .bool false, .bool false, .bool false, .bool false, .bool false, .bool false, .bool false, .slice none 0 0] [(0, 1, x10), (1, 1, x0), (2, 1, x1), (17, 1, (.bool true)), (20, 1, x17)] fun x18 =>
  sBox h x18 64 fun x19 h_1 => 
  sLoop (S := Value) (fun nxt s h => screen_New_l1 R x19 (fun x20' h => nxt x20' h) s h) (.int .i64 0) h_1)
set_option maxRecDepth 100000 in
theorem screen_New_runs {x0 x1 : Value} {h : Heap} {R : Value → Heap → Prop} (H : screen_New_S x0 x1 h R) : screen_New_c x0 x1 h R := by
 unfold screen_New_S at H
 refine runsof (b := (mk (Ap [x0,x1] 30))) call8 func8 rfl fun w0 HA => wp_seq (lwp_list ?_)
 refine lsassign (.pointer none) <| ls_nil (then_normal ?_)
 refine freq (mk (Ap [x0,x1,ud,ud,(.pointer none)] 27)) <| wp_seq (lwp_list ?_)
 refine lsmove x0 <| lsmove x1 <| lsd 10 HA (dcall H) fun x10 h w H HA => lsassign x10 <| ls_nil (then_normal ?_)
 refine freq (mk (Ap [x0,x1,ud,ud,(.pointer none),x10,ud,ud,x0,x1,x10] 21)) <| wp_seq <| wp_seq (lwp_list ?_)
 refine lsmove x10 <| lsp 12 (p_eqlNil underlying54 (by kernel_rfl) (by kernel_rfl) H) fun x12 H => ls_nil (then_normal ?_)
 refine freq (mk (Ap [x0,x1,ud,ud,(.pointer none),x10,ud,ud,x0,x1,x10,x10,x12] 19)) <| wp_if rfl H (fun H => ?_) (fun H => ?_)
 ·refine wp_seq (lwp_list ?_)
  refine lsassign (.pointer none) <| ls_nil (then_normal ?_)
  refine freq (mk (Ap [x0,x1,ud,ud,(.pointer none),x10,ud,ud,x0,x1,x10,x10,x12] 19)) <| wp_ret <| then_ret <| end1 (results8) (by kernel_rfl) (by kernel_rfl) HA H _ (.inr rfl)
 ·refine wp_skip <| then_normal <| freq (mk (Ap [x0,x1,ud,ud,(.pointer none),x10,ud,ud,x0,x1,x10,x10,x12] 19)) <| wp_seq (lwp_list ?_)
  refine lsmove x10 <| lsmove x0 <| lsmove x1 <| lsmove x1 <| lsp 17 (psub H) fun x17 H => lsp 18 (plit (pl := [(0,1),(1,1),(2,1),(3,7),(10,7),(17,1),(18,1),(19,1),(20,1),(21,512),(533,1)]) zeroValue64 underlying64 ⟨(by kernel_rfl),sizeOf54,(by kernel_rfl),sizeOf3,(by kernel_rfl),sizeOf3,(by kernel_rfl),sizeOf61,(by kernel_rfl),sizeOf61,(by kernel_rfl),sizeOf4,(by kernel_rfl),sizeOf4,(by kernel_rfl),sizeOf3,(by kernel_rfl),sizeOf3,(by kernel_rfl),sizeOf62,(by kernel_rfl),sizeOf26,trivial⟩ H) fun x18 H => lsd 19 HA (dbox H) fun x19 h_1 w_1 H HA_1 => lsassign x19 <| ls_nil (then_normal ?_)
  refine freq (mk (Ap [x0,x1,ud,ud,(.pointer none),x10,x19,ud,x0,x1,x10,x10,x12,x10,x0,x1,x1,x17,x18,x19] 12)) <| wp_seq <| wp_seq (lwp_list ?_)
  refine lsmove (.int .i64 0) <| ls_nil (then_normal ?_)
  refine freq (mk (Ap [x0,x1,ud,ud,(.pointer none),x10,x19,ud,x0,x1,x10,x10,x12,x10,x0,x1,x1,x17,x18,x19,(.int .i64 0)] 11)) <| wp_block ?_
  obtain ⟨I,m,H0,HB⟩ := H
  refine wp_loop (fun a w => ∃ (D : Nat → Value) (x20 : Value) (h_2 : Heap),a = (mk ([x0,x1,ud,ud,(.pointer none),x10,x19,(D 0),x0,x1,x10,x10,x12,x10,x0,x1,x1,x17,x18,x19,x20] ++ (Ad D 1 10 [ud]))) ∧ At w0 w h_2 ∧ I x20 h_2) (fun a w => m (a.tmps.getD 20 ud) w.heap) ?_ ?_
  ·exact ⟨(gd (Ap [] 11)),(.int .i64 0),h_1,by kernel_rfl,HA_1,H0⟩
  ·rintro _ w_2 ⟨D,x20,h_2,rfl,HA_2,HI⟩
   have H : screen_New_l1 R x19 (fun x20' h' => I x20' h' ∧ m x20' h' < m x20 h_2) x20 h_2 := HB x20 h_2 HI
   clear HB H0 HI
   unfold screen_New_l1 at H
   refine wp_seq (lwp_list ?_)
   refine lsp 21 (psLt H) fun x21 H => ls_nil (then_normal ?_)
   refine freq (mk ([x0,x1,ud,ud,(.pointer none),x10,x19,(D 0),x0,x1,x10,x10,x12,x10,x0,x1,x1,x17,x18,x19,x20,x21] ++ (Ad D 2 9 [ud]))) <| wp_seq <| wp_if rfl H (fun H => ?_) (fun H => ?_)
   ·refine wp_skip <| then_normal <| freq (mk ([x0,x1,ud,ud,(.pointer none),x10,x19,(D 0),x0,x1,x10,x10,x12,x10,x0,x1,x1,x17,x18,x19,x20,x21] ++ (Ad D 2 9 [ud]))) <| wp_seq <| wp_block <| wp_seq (lwp_list ?_)
    refine lsmove x20 <| lsassign x20 <| ls_nil (then_normal ?_)
    refine freq (mk ([x0,x1,ud,ud,(.pointer none),x10,x19,x20,x0,x1,x10,x10,x12,x10,x0,x1,x1,x17,x18,x19,x20,x21,x20] ++ (Ad D 3 8 [ud]))) <| lwpmx (Nat.testBit 136) (Nat.testBit 0) (Nat.testBit 119) [0,0,0,4,1,17,63,127] (Nat.testBit 0) (fun h' => h' = h_2) [0,1,2,3,4,5,6,7] HA_2 rfl fun w_3 HA_3 => lmal x19 23 rfl (almove) <| lmal x20 24 rfl (almove) <| lmal x20 25 rfl (almove) <| lmd 26 rfl HA_3 (dcall H) fun x26 h_3 w_4 H HA_4 => lmp 27 rfl (pnil H) fun x27 H => lmp 28 rfl (poff underlying64 rfl sizeOf62 rfl H) fun x28 H => lmp 29 rfl (pixa underlying62 sizeOf4 H) fun x29 H => lmdn rfl HA_4 (dstw sizeOf4 H) fun _ h_4 w_5 H HA_5 => lm_nil <| block_normal <| then_normal ?_
    refine freq (mk [x0,x1,ud,ud,(.pointer none),x10,x19,x20,x0,x1,x10,x10,x12,x10,x0,x1,x1,x17,x18,x19,x20,x21,x20,x19,x20,x20,x26,x27,x28,x29,(D 10),ud]) <| lwp_list <| lsp 30 (padd H) fun x30 H => lsmove x30 <| ls_nil <| ⟨⟨(gd ([x20,x21,x20,x19,x20,x20,x26,x27,x28,x29,x30])),x30,h_4,by kernel_rfl,HA_5,H.1⟩, loop_lt HA_5.heap HA_2.heap (by kernel_rfl) (by kernel_rfl) H.2⟩
   ·refine wp_exit <| then_exit <| then_exit <| block_exit <| then_normal <| freq (mk ([x0,x1,ud,ud,(.pointer none),x10,x19,(D 0),x0,x1,x10,x10,x12,x10,x0,x1,x1,x17,x18,x19,x20,x21] ++ (Ad D 2 9 [ud]))) <| wp_seq (lwp_list ?_)
    refine lsmove x19 <| lsassign x19 <| ls_nil (then_normal ?_)
    refine freq (mk ([x0,x1,ud,ud,x19,x10,x19,(D 0),x0,x1,x10,x10,x12,x10,x0,x1,x1,x17,x18,x19,x20,x21] ++ (Ad D 2 9 [x19]))) <| wp_ret <| end1 (results8) (by kernel_rfl) (by kernel_rfl) HA_2 H _ (.inr rfl)

end Go.Proofs.YtmhhjpfkipficaaDoor


end

section
/- The shallow reading of one function, and that the function does it. Written by a program. -/
set_option linter.unusedVariables false
namespace Go.Proofs.YtmhhjpfkipficaaDoor
open Go Go.HW _root_.Go.Proofs.Tryd

def screen_isStop_S (x0 : Value) (h : Heap) (R : Value → Heap → Prop) : Prop :=
  sGt x0 (.int .i64 0) fun x4 =>
  sAnd x4 (fun k =>
  sRem .i64 x0 (.int .i64 8) fun x7 =>
  sEq x7 (.int .i64 0) fun x8 =>
  k x8) fun x9 =>
  R x9 h
set_option maxRecDepth 100000 in
theorem screen_isStop_runs {x0 : Value} {h : Heap} {R : Value → Heap → Prop} (H : screen_isStop_S x0 h R) : screen_isStop_c x0 h R := by
 unfold screen_isStop_S at H
 refine runsof (b := (mk (Ap [x0] 9))) call28 func28 rfl fun w0 HA => wp_seq (lwp_list ?_)
 refine lsassign (.bool false) <| ls_nil (then_normal ?_)
 refine freq (mk (Ap [x0,ud,(.bool false)] 7)) <| wp_seq (lwp_list ?_)
 refine lsmove x0 <| lsp 4 (psGt H) fun x4 H => lsmove x4 <| ls_and [(),(),(),()] (fun K a w => ∃ (D : Nat → Value) (x9 : Value),a = (mk [x0,ud,(.bool false),x0,x4,x4,(D 0),(D 1),(D 2),x9]) ∧ At w0 w h ∧ K x9) H (fun hb H => ?_) (fun hb H => ?_) ?_
 ·refine lsmove (hg := by rw [hb]; kernel_rfl) x0 <| lsp (hg := by rw [hb]; kernel_rfl) 7 (prem H) fun x7 H => lsp (hg := by rw [hb]; kernel_rfl) 8 (psEq H) fun x8 H => lspickt x8 (by rw [hb]; kernel_rfl) <| ls_nil (then_normal ?_)
  exact ⟨(gd ([x0,x7,x8])),x8,by kernel_rfl,HA,H⟩
 ·refine lsskip (hg := by rw [hb]; kernel_rfl) 6 <| lsskip (hg := by rw [hb]; kernel_rfl) 7 <| lsskip (hg := by rw [hb]; kernel_rfl) 8 <| lspickf (.bool false) (by rw [hb]; kernel_rfl) <| ls_nil (then_normal ?_)
  exact ⟨(gd ([ud,ud,ud])),(.bool false),by kernel_rfl,HA,H⟩
 ·rintro _ w ⟨D,x9,rfl,HA,H⟩
  refine lsassign x9 <| ls_nil (then_normal ?_)
  refine freq (mk [x0,ud,x9,x0,x4,x4,(D 0),(D 1),(D 2),x9]) <| wp_ret <| end1 (results28) (by kernel_rfl) (by kernel_rfl) HA H _ (.inr rfl)

end Go.Proofs.YtmhhjpfkipficaaDoor


end

section
/- Screens: new ones, stops, margins, modes, what is saved. -/
set_option linter.unusedSimpArgs false
set_option linter.unusedVariables false
namespace Go.Proofs.YtmhhjpfkipficaaDoor
open Go Go.HW

def newM (w g : Int) (st : List Bool) : Sc := ⟨w, g, 0, 0, false, 0, 0, 0, false, 0, 0, false, 0, 0, 0, false, true, false, 0, g - 1, st⟩
theorem newM_ok {w g : Int} {st : List Bool} (h : 1 ≤ w ∧ w ≤ 512 ∧ 1 ≤ g ∧ g ≤ 512) : OkS (newM w g st) := ⟨⟨h.1, h.2.1⟩, h.2.2, ⟨by simp [newM], by simp [newM]; omega⟩, ⟨by simp [newM], by simp [newM]; omega⟩, by simp [newM]; omega, by simp [newM]⟩
theorem scL_stop {m : Sc} {kg : Nat} {ov : Value} {i : Nat} {b : Bool} : i < m.st.length → (scL m kg ov).set (21 + i) (.bool b) = scL { m with st := m.st.set i b } kg ov := fun hi => by
  unfold scL
  rw [List.set_append_right _ _ (by simp [scH])]
  have : (scH m kg).length = 21 := rfl
  rw [this, Nat.add_sub_cancel_left, List.set_append_left _ _ (by simpa using hi), List.map_set]
  rfl
theorem scL_get {m : Sc} {kg : Nat} {ov : Value} {i : Nat} (hi : i < m.st.length) : (scL m kg ov)[21 + i]? = some (.bool m.st[i]) := by
  unfold scL
  have : (scH m kg).length = 21 := rfl
  rw [List.getElem?_append_right (by omega), this, Nat.add_sub_cancel_left, List.getElem?_append_left (by simpa using hi)]
  simp [hi]
theorem setL_mid : ∀ (vs l1 l2 rest : List Value), l2.length = vs.length → setL (l1 ++ (l2 ++ rest)) l1.length vs = l1 ++ (vs ++ rest)
  | [], l1, l2, rest, h => by have : l2 = [] := List.eq_nil_of_length_eq_zero h; subst this; rfl
  | v :: r, l1, u :: l2, rest, h => by
    rw [setL, List.cons_append, List.set_append_right _ _ (Nat.le_refl _), Nat.sub_self, List.set_cons_zero]
    have := setL_mid r (l1 ++ [v]) l2 rest (by simpa using h)
    rw [List.length_append, List.length_singleton, List.append_assoc, List.append_assoc] at this
    exact this
  | v :: r, l1, [], rest, h => by simp at h

section
variable {h0 h : Heap} {F : List HP} {R : Value → Heap → Prop} {k kg : Nat} {m : Sc} {C : Cel} {off : List (List Ce)} {y : Int}
theorem isStop_spec {x : Int} (H : ∀ b, R (.bool b) h) : screen_isStop_c (.int .i64 x) h R := by
  apply screen_isStop_runs
  unfold screen_isStop_S
  rw [ev_gt, ev_and]
  split
  · simp only [ev_rem (show (8 : Int) ≠ 0 by decide), ev_eq]
    exact H _
  · exact H _
theorem stStop {i : Nat} {b : Bool} {K : Heap → Prop} (z : HW.Sep h0 (Scr k m C off :: F) h) (hi : i < 512) (H : ∀ h', HW.Sep h0 (Scr k { m with st := m.st.set i b } C off :: F) h' → K h') : sSt h (ptr k (21 + i)) (.bool b) K := by
  obtain ⟨kg, ov, rs, e, es, so⟩ := Sopen z
  refine stL so (by rw [sc_len]; omega) trivial (fun h' s' => H h' ?_)
  rw [scL_stop (by omega)] at s'
  exact Sshut (m := { m with st := m.st.set i b }) e (by simp [es]) s'
theorem ev_ixa {b o i n sz : Nat} {K : Value → Prop} (hi : i < n) : sIxA (ptr b o) (.int .i64 (i : Int)) n sz K = K (ptr b (o + i * sz)) :=
  propext ⟨fun ⟨b', o', k', j, e, e2, h1, h2, x⟩ => by cases e; cases e2; simpa using x, fun x => ⟨b, o, .i64, i, rfl, rfl, by omega, by omega, by simpa using x⟩⟩
set_option maxRecDepth 20000 in
theorem New_spec {w g : Int} (hw : i64 w) (hg : i64 g) (H0 : ¬(1 ≤ w ∧ w ≤ 512 ∧ 1 ≤ g ∧ g ≤ 512) → R (.pointer none) h) (H1 : (1 ≤ w ∧ w ≤ 512 ∧ 1 ≤ g ∧ g ≤ 512) → ∀ k st h', HW.Sep h [Scr k (newM w g st) (fun _ _ => ce0) []] h' → R (ptr k 0) h') : screen_New_c (.int .i64 w) (.int .i64 g) h R := by
  apply screen_New_runs
  unfold screen_New_S
  refine new_spec hw hg (fun hn => ?_) (fun hs kg v h1 z s1 => ?_)
  · rw [ev_eqlNil, Option.isNone_none, ev_if, if_pos rfl]
    exact H0 hn
  have H1 := H1 hs
  have e0 : ∀ {K : Value → Prop}, sEqlNil (ptr kg 0) K = K (.bool false) := by intro K; simp only [ptr, ev_eqlNil, Option.isNone_some]
  rw [e0, ev_if, if_neg (by decide), ev_sub, wrap_i64 (by omega) (by omega)]
  refine build_intro (cs := (scL (newM w g (List.replicate 512 false)) kg (.slice none 0 0)).toArray) (fill_k (by kernel_rfl)) ?_
  refine s1.box (c := (scL (newM w g (List.replicate 512 false)) kg (.slice none 0 0)).toArray) rfl (fun k h2 s2 => ?_)
  have s3 := sep_nil (enc := encCV) (sz := 1) s2
  have s4 : HW.Sep h (rowsP [] :: _) h2 := (Sep.shut_all (L := []) s3)
  have s5 := selF (L := [_, _, _, _, _]) s4 [3, 4, 2, 1, 0] rfl (by decide)
  have s6 := Gshut (C := fun _ _ => ce0) z (by
    funext x y
    unfold cell
    split
    · rw [List.getD_eq_getElem?_getD, List.getElem?_replicate]; split <;> rfl
    · rfl) s5
  have s7 := Sshut (m := newM w g (List.replicate 512 false)) (off := []) (rs := []) rfl (List.length_replicate ..) s6.b1
  generalize List.replicate 512 false = L at s7
  refine ⟨fun t h' => ∃ (i : Nat) (st : List Bool), i ≤ 512 ∧ t = .int .i64 i ∧ HW.Sep h [Scr k (newM w g st) (fun _ _ => ce0) []] h', fun t _ => match t with | .int _ i => (512 - i).toNat | _ => 0, ⟨0, L, by omega, rfl, s7⟩, ?_⟩
  rintro _ h3 ⟨i, st, hi, rfl, s3⟩
  simp only []
  unfold screen_New_l1
  rw [ev_lt, ev_if]
  by_cases hlt : (i : Int) < 512
  · rw [if_pos (decide_eq_true hlt)]
    refine isStop_spec (fun b => ?_)
    rw [ev_nil, ev_off, Nat.zero_add, ev_ixa (by omega), Nat.mul_one]
    refine stStop s3 (by omega) (fun h4 s4 => ?_)
    rw [ev_add, wrap_i64 (by omega) (by omega)]
    exact ⟨⟨i + 1, st.set i b, by omega, by rw [Int.natCast_add]; rfl, s4⟩, by simp only; omega⟩
  · rw [if_neg (by simpa using hlt)]
    exact H1 k st h3 s3
end
end Go.Proofs.YtmhhjpfkipficaaDoor


end

section
/- The shallow reading of one function, and that the function does it. Written by a program. -/
set_option linter.unusedVariables false
namespace Go.Proofs.YtmhhjpfkipficaaDoor
open Go Go.HW _root_.Go.Proofs.Tryd

def screen_Screen_Tab_l3 (next : Value → Heap → Prop) (x0 x1_1 x7 x5 : Value) (next1 : Heap → Prop) (h_6 : Heap) : Prop :=
  sNil x7 fun x39 =>
  sOff x39 0 fun x40 =>
  sLd h_6 x40 fun x41 =>
  sGt x41 (.int .i64 0) fun x42 =>
  sAnd x42 (fun k_1 =>
  sNil x7 fun x45 =>
  sOff x45 0 fun x46 =>
  sLd h_6 x46 fun x47 =>
  sNil x0 fun x49 =>
  sOff x49 1 fun x50 =>
  sLd h_6 x50 fun x51 =>
  sSub .i64 x51 (.int .i64 1) fun x52 =>
  sLt x47 x52 fun x53 =>
  k_1 x53) fun x54 =>
  sAnd x54 (fun k =>
  sNil x7 fun x58 =>
  sOff x58 0 fun x59 =>
  sLd h_6 x59 fun x60 =>
  sNil x0 fun x61 =>
  sOff x61 21 fun x62 =>
  sIxA x62 x60 512 1 fun x63 =>
  sLd h_6 x63 fun x64 =>
  sNot x64 fun x65 =>
  k x65) fun x66 =>
  sIf x66 (sNil x7 fun x68 =>
  sOff x68 0 fun x69 =>
  sLd h_6 x69 fun x70 =>
  sAdd .i64 x70 x5 fun x72 =>
  sNil x7 fun x73 =>
  sOff x73 0 fun x74 =>
  sSt h_6 x74 x72 fun h_7 => 
  next1 h_7) (sNil x7 fun x77 =>
  sOff x77 0 fun x78 =>
  sLd h_6 x78 fun x79 =>
  sNil x0 fun x81 =>
  sOff x81 1 fun x82 =>
  sLd h_6 x82 fun x83 =>
  sSub .i64 x83 (.int .i64 1) fun x84 =>
  screen_within_c x79 (.int .i64 0) x84 h_6 fun x85 h_8 => 
  sNil x7 fun x86 =>
  sOff x86 0 fun x87 =>
  sSt h_8 x87 x85 fun h_9 => 
  sSub .i64 x1_1 (.int .i64 1) fun x29 =>
  next x29 h_9)
def screen_Screen_Tab_l2 (R : Value → Heap → Prop) (x0 x7 x5 : Value) (next : Value → Heap → Prop) (x1_1 : Value) (h_4 : Heap) : Prop :=
  sGt x1_1 (.int .i64 0) fun x27 =>
  sIf x27 (sNil x7 fun x31 =>
  sOff x31 0 fun x32 =>
  sLd h_4 x32 fun x33 =>
  sAdd .i64 x33 x5 fun x35 =>
  sNil x7 fun x36 =>
  sOff x36 0 fun x37 =>
  sSt h_4 x37 x35 fun h_5 => 
  sLoop (S := Unit) (fun nxt s h => screen_Screen_Tab_l3 next x0 x1_1 x7 x5 (fun  h => nxt () h)  h) () h_5) (R unit h_4)
def screen_Screen_Tab_j1 (R : Value → Heap → Prop) (x0 x1 x7 x5 : Value) (h_2 : Heap) : Prop :=
  sNil x0 fun x15 =>
  sOff x15 1 fun x16 =>
  sLd h_2 x16 fun x17 =>
  sNeg .i64 x17 fun x18 =>
  sNil x0 fun x20 =>
  sOff x20 1 fun x21 =>
  sLd h_2 x21 fun x22 =>
  screen_within_c x1 x18 x22 h_2 fun x23 h_3 => 
  sMul .i64 x23 x5 fun x25 =>
  sLoop (S := Value) (fun nxt s h => screen_Screen_Tab_l2 R x0 x7 x5 (fun x1_1' h => nxt x1_1' h) s h) x25 h_3
def screen_Screen_Tab_S (x0 x1 : Value) (h : Heap) (R : Value → Heap → Prop) : Prop :=
  screen_Screen_cur_c x0 h fun x7 h => 
  sNil x7 fun x9 =>
  sOff x9 2 fun x10 =>
  sSt h x10 (.bool false) fun h_1 => 
  sLt x1 (.int .i64 0) fun x12 =>
  sIf x12 (screen_Screen_Tab_j1 R x0 x1 x7 (.int .i64 (-1)) h_1) (screen_Screen_Tab_j1 R x0 x1 x7 (.int .i64 1) h_1)
set_option maxRecDepth 100000 in
theorem screen_Screen_Tab_runs {x0 x1 : Value} {h : Heap} {R : Value → Heap → Prop} (H : screen_Screen_Tab_S x0 x1 h R) : screen_Screen_Tab_c x0 x1 h R := by
 unfold screen_Screen_Tab_S at H
 refine runsof (b := (mk (Ap [x0,x1] 86))) call44 func44 rfl fun w0 HA => wp_seq (lwp_list ?_)
 refine lsmove x0 <| lsd 7 HA (dcall H) fun x7 h w H HA => lsassign x7 <| ls_nil (then_normal ?_)
 refine freq (mk (Ap [x0,x1,ud,ud,x7,ud,x0,x7] 80)) <| wp_seq (lwp_list ?_)
 refine lsmove x7 <| lsp 9 (pnil H) fun x9 H => lsp 10 (poff underlying38 rfl sizeOf4 rfl H) fun x10 H => lsdn HA (dstw sizeOf4 H) fun _ h_1 w_1 H HA_1 => ls_nil (then_normal ?_)
 refine freq (mk (Ap [x0,x1,ud,ud,x7,ud,x0,x7,x7,x9,x10] 77)) <| wp_seq (lwp_list ?_)
 refine lsassign (.int .i64 1) <| ls_nil (then_normal ?_)
 refine freq (mk (Ap [x0,x1,ud,ud,x7,(.int .i64 1),x0,x7,x7,x9,x10] 77)) <| wp_seq <| wp_seq (lwp_list ?_)
 refine lsmove x1 <| lsp 12 (psLt H) fun x12 H => ls_nil (then_normal ?_)
 refine freq (mk (Ap [x0,x1,ud,ud,x7,(.int .i64 1),x0,x7,x7,x9,x10,x1,x12] 75)) <| wp_join (fun a w => ∃ (D : Nat → Value) (x5 : Value) (h_2 : Heap),a = (mk (Ap [x0,x1,ud,ud,x7,x5,x0,x7,x7,x9,x10,x1,x12] 75)) ∧ At w0 w h_2 ∧ screen_Screen_Tab_j1 R x0 x1 x7 x5 h_2) ?_ ?_
 ·refine wp_if rfl H (fun H => ?_) (fun H => ?_)
  ·refine lwp_list <| lsassign (.int .i64 (-1)) <| ls_nil <| ⟨(gd ([])),(.int .i64 (-1)),h_1,by kernel_rfl,HA_1,H⟩
  ·refine wp_skip <| ⟨(gd ([])),(.int .i64 1),h_1,by kernel_rfl,HA_1,H⟩
 ·rintro _ w_2 ⟨D,x5,h_2,rfl,HA_2,H⟩
  unfold screen_Screen_Tab_j1 at H
  refine then_normal <| freq (mk (Ap [x0,x1,ud,ud,x7,x5,x0,x7,x7,x9,x10,x1,x12] 75)) <| wp_seq <| lwpmx (Nat.testBit 1024) (Nat.testBit 0) (Nat.testBit 14831) [0,0,2,6,14,30,0,64,192,448,1023,0,4095,8191] (Nat.testBit 0) (fun h' => h' = h_2) [0,1,2,3,4,5,6,7,8,9,10,11,12,13] HA_2 rfl fun w_3 HA_3 => lmal x1 13 rfl (almove) <| lmal x0 14 rfl (almove) <| lmp 15 rfl (pnil H) fun x15 H => lmp 16 rfl (poff underlying64 rfl sizeOf3 rfl H) fun x16 H => lmf 17 rfl (of_eq (yld isAgg3 H)) fun x17 H => lmp 18 rfl (pneg H) fun x18 H => lmal x0 19 rfl (almove) <| lmp 20 rfl (pnil H) fun x20 H => lmp 21 rfl (poff underlying64 rfl sizeOf3 rfl H) (fun x21 H => ?_)
  refine lmf 22 rfl (of_eq (yld isAgg3 H)) fun x22 H => lmd 23 rfl HA_3 (dcall H) fun x23 h_3 w_4 H HA_4 => lmal x5 24 rfl (almove) <| lmp 25 rfl (pmul H) fun x25 H => lmal x25 1 rfl (alassign) <| lm_nil <| then_normal <| freq (mk (Ap [x0,x25,ud,ud,x7,x5,x0,x7,x7,x9,x10,x1,x12,x1,x0,x15,x16,x17,x18,x0,x20,x21,x22,x23,x5,x25] 62)) <| wp_block ?_
  obtain ⟨I,m,H0,HB⟩ := H
  refine wp_loop (fun a w => ∃ (D_1 : Nat → Value) (x1_1 : Value) (h_4 : Heap),a = (mk ([x0,x1_1,ud,ud,x7,x5,x0,x7,x7,x9,x10,x1,x12,x1,x0,x15,x16,x17,x18,x0,x20,x21,x22,x23,x5,x25] ++ (Ad D_1 0 62 []))) ∧ At w0 w h_4 ∧ I x1_1 h_4) (fun a w => m (a.tmps.getD 1 ud) w.heap) ?_ ?_
  ·exact ⟨(gd (Ap [] 62)),x25,h_3,by kernel_rfl,HA_4,H0⟩
  ·rintro _ w_5 ⟨D_1,x1_1,h_4,rfl,HA_5,HI⟩
   have H : screen_Screen_Tab_l2 R x0 x7 x5 (fun x1_1' h' => I x1_1' h' ∧ m x1_1' h' < m x1_1 h_4) x1_1 h_4 := HB x1_1 h_4 HI
   clear HB H0 HI
   unfold screen_Screen_Tab_l2 at H
   refine wp_seq <| wp_seq (lwp_list ?_)
   refine lsmove x1_1 <| lsp 27 (psGt H) fun x27 H => ls_nil (then_normal ?_)
   refine freq (mk ([x0,x1_1,ud,ud,x7,x5,x0,x7,x7,x9,x10,x1,x12,x1,x0,x15,x16,x17,x18,x0,x20,x21,x22,x23,x5,x25,x1_1,x27] ++ (Ad D_1 2 60 []))) <| wp_if rfl H (fun H => ?_) (fun H => ?_)
   ·refine wp_skip <| then_normal <| freq (mk ([x0,x1_1,ud,ud,x7,x5,x0,x7,x7,x9,x10,x1,x12,x1,x0,x15,x16,x17,x18,x0,x20,x21,x22,x23,x5,x25,x1_1,x27] ++ (Ad D_1 2 60 []))) <| wp_seq <| wp_block <| wp_seq <| wp_seq (lwp_list ?_)
    refine lsmove x7 <| lsp 31 (pnil H) fun x31 H => lsp 32 (poff underlying38 rfl sizeOf3 rfl H) fun x32 H => lsy 33 HA_5 (yld isAgg3 H) fun x33 H => lsmove x5 <| lsp 35 (padd H) fun x35 H => lsp 36 (pnil H) fun x36 H => lsp 37 (poff underlying38 rfl sizeOf3 rfl H) fun x37 H => lsdn HA_5 (dstw sizeOf3 H) fun _ h_5 w_6 H HA_6 => ls_nil (then_normal ?_)
    refine freq (mk ([x0,x1_1,ud,ud,x7,x5,x0,x7,x7,x9,x10,x1,x12,x1,x0,x15,x16,x17,x18,x0,x20,x21,x22,x23,x5,x25,x1_1,x27,(D_1 2),(D_1 3),x7,x31,x32,x33,x5,x35,x36,x37] ++ (Ad D_1 12 50 []))) <| wp_block ?_
    obtain ⟨I_1,m_1,H0,HB⟩ := H
    refine wp_loop (fun a w => ∃ (D_2 : Nat → Value) (h_6 : Heap),a = (mk ([x0,x1_1,ud,ud,x7,x5,x0,x7,x7,x9,x10,x1,x12,x1,x0,x15,x16,x17,x18,x0,x20,x21,x22,x23,x5,x25,x1_1,x27,(D_1 2),(D_1 3),x7,x31,x32,x33,x5,x35,x36,x37] ++ (Ad D_2 0 37 (Ad D_1 49 13 [])))) ∧ At w0 w h_6 ∧ I_1 () h_6) (fun a w => m_1 () w.heap) ?_ ?_
    ·exact ⟨(gd (Ad D_1 12 37 [])),h_5,by kernel_rfl,HA_6,H0⟩
    ·rintro _ w_7 ⟨D_2,h_6,rfl,HA_7,HI⟩
     have H : screen_Screen_Tab_l3 (fun x1_1' h' => I x1_1' h' ∧ m x1_1' h' < m x1_1 h_4) x0 x1_1 x7 x5 (fun  h' => I_1 () h' ∧ m_1 () h' < m_1 () h_6)  h_6 := HB () h_6 HI
     clear HB H0 HI
     unfold screen_Screen_Tab_l3 at H
     refine wp_seq <| wp_seq <| lwpqt HA_7 <| lqmove x7 <| lqp 39 (pnil H) fun x39 H => lqp 40 (poff underlying38 rfl sizeOf3 rfl H) fun x40 H => lqy 41 HA_7 (yld isAgg3 H) fun x41 H => lqp 42 (psGt H) fun x42 H => lqmove x42 <| lq_and [(),(),(),(),(),(),(),(),(),(),()] (fun K a => ∃ (D_3 : Nat → Value) (x54 : Value),a = (mk ([x0,x1_1,ud,ud,x7,x5,x0,x7,x7,x9,x10,x1,x12,x1,x0,x15,x16,x17,x18,x0,x20,x21,x22,x23,x5,x25,x1_1,x27,(D_1 2),(D_1 3),x7,x31,x32,x33,x5,x35,x36,x37,x7,x39,x40,x41,x42,x42] ++ (Ad D_3 0 10 ([x54] ++ (Ad D_2 17 20 (Ad D_1 49 13 [])))))) ∧ K x54) H (fun hb_1 H => ?_) (fun hb_1 H => ?_) ?_
     ·refine lqmove (hg := by rw [hb_1]; kernel_rfl) x7 <| lqp (hg := by rw [hb_1]; kernel_rfl) 45 (pnil H) fun x45 H => lqp (hg := by rw [hb_1]; kernel_rfl) 46 (poff underlying38 rfl sizeOf3 rfl H) fun x46 H => lqy (hg := by rw [hb_1]; kernel_rfl) 47 HA_7 (yld isAgg3 H) fun x47 H => lqmove (hg := by rw [hb_1]; kernel_rfl) x0 <| lqp (hg := by rw [hb_1]; kernel_rfl) 49 (pnil H) fun x49 H => lqp (hg := by rw [hb_1]; kernel_rfl) 50 (poff underlying64 rfl sizeOf3 rfl H) fun x50 H => lqy (hg := by rw [hb_1]; kernel_rfl) 51 HA_7 (yld isAgg3 H) fun x51 H => lqp (hg := by rw [hb_1]; kernel_rfl) 52 (psub H) fun x52 H => lqp (hg := by rw [hb_1]; kernel_rfl) 53 (psLt H) fun x53 H => lqpickt x53 (by rw [hb_1]; kernel_rfl) <| lq_nil <| ⟨(gd ([x7,x45,x46,x47,x0,x49,x50,x51,x52,x53])),x53,by kernel_rfl,H⟩
     ·refine lqskip 44 (by rw [hb_1]; kernel_rfl) <| lqskip 45 (by rw [hb_1]; kernel_rfl) <| lqskip 46 (by rw [hb_1]; kernel_rfl) <| lqskip 47 (by rw [hb_1]; kernel_rfl) <| lqskip 48 (by rw [hb_1]; kernel_rfl) <| lqskip 49 (by rw [hb_1]; kernel_rfl) <| lqskip 50 (by rw [hb_1]; kernel_rfl) <| lqskip 51 (by rw [hb_1]; kernel_rfl) <| lqskip 52 (by rw [hb_1]; kernel_rfl) <| lqskip 53 (by rw [hb_1]; kernel_rfl) <| lqpickf (.bool false) (by rw [hb_1]; kernel_rfl) <| lq_nil <| ⟨(gd (Ap [] 10)),(.bool false),by kernel_rfl,H⟩
     ·rintro _ ⟨D_3,x54,rfl,H⟩
      refine lqmove x54 <| lq_and [(),(),(),(),(),(),(),(),(),(),()] (fun K a => ∃ (D_4 : Nat → Value) (x66 : Value),a = (mk ([x0,x1_1,ud,ud,x7,x5,x0,x7,x7,x9,x10,x1,x12,x1,x0,x15,x16,x17,x18,x0,x20,x21,x22,x23,x5,x25,x1_1,x27,(D_1 2),(D_1 3),x7,x31,x32,x33,x5,x35,x36,x37,x7,x39,x40,x41,x42,x42] ++ (Ad D_3 0 10 ([x54,x54] ++ (Ad D_4 0 10 ([x66] ++ (Ad D_2 29 8 (Ad D_1 49 13 [])))))))) ∧ K x66) H (fun hb H => ?_) (fun hb H => ?_) ?_
      ·refine lqmove (hg := by rw [hb]; kernel_rfl) x0 <| lqmove (hg := by rw [hb]; kernel_rfl) x7 <| lqp (hg := by rw [hb]; kernel_rfl) 58 (pnil H) fun x58 H => lqp (hg := by rw [hb]; kernel_rfl) 59 (poff underlying38 rfl sizeOf3 rfl H) fun x59 H => lqy (hg := by rw [hb]; kernel_rfl) 60 HA_7 (yld isAgg3 H) fun x60 H => lqp (hg := by rw [hb]; kernel_rfl) 61 (pnil H) fun x61 H => lqp (hg := by rw [hb]; kernel_rfl) 62 (poff underlying64 rfl sizeOf62 rfl H) fun x62 H => lqp (hg := by rw [hb]; kernel_rfl) 63 (pixa underlying62 sizeOf4 H) fun x63 H => lqy (hg := by rw [hb]; kernel_rfl) 64 HA_7 (yld isAgg4 H) fun x64 H => lqp (hg := by rw [hb]; kernel_rfl) 65 (pnot H) fun x65 H => lqpickt x65 (by rw [hb]; kernel_rfl) <| lq_nil <| ⟨(gd ([x0,x7,x58,x59,x60,x61,x62,x63,x64,x65])),x65,by kernel_rfl,H⟩
      ·refine lqskip 56 (by rw [hb]; kernel_rfl) <| lqskip 57 (by rw [hb]; kernel_rfl) <| lqskip 58 (by rw [hb]; kernel_rfl) <| lqskip 59 (by rw [hb]; kernel_rfl) <| lqskip 60 (by rw [hb]; kernel_rfl) <| lqskip 61 (by rw [hb]; kernel_rfl) <| lqskip 62 (by rw [hb]; kernel_rfl) <| lqskip 63 (by rw [hb]; kernel_rfl) <| lqskip 64 (by rw [hb]; kernel_rfl) <| lqskip 65 (by rw [hb]; kernel_rfl) <| lqpickf (.bool false) (by rw [hb]; kernel_rfl) <| lq_nil <| ⟨(gd (Ap [] 10)),(.bool false),by kernel_rfl,H⟩
      ·rintro _ ⟨D_4,x66,rfl,H⟩
       refine lq_nil fun w_8 HA_8 => then_normal <| freq (mk ([x0,x1_1,ud,ud,x7,x5,x0,x7,x7,x9,x10,x1,x12,x1,x0,x15,x16,x17,x18,x0,x20,x21,x22,x23,x5,x25,x1_1,x27,(D_1 2),(D_1 3),x7,x31,x32,x33,x5,x35,x36,x37,x7,x39,x40,x41,x42,x42] ++ (Ad D_3 0 10 ([x54,x54] ++ (Ad D_4 0 10 ([x66] ++ (Ad D_2 29 8 (Ad D_1 49 13 [])))))))) <| wp_if rfl H (fun H => ?_) (fun H => ?_)
       ·refine wp_skip <| then_normal <| freq (mk ([x0,x1_1,ud,ud,x7,x5,x0,x7,x7,x9,x10,x1,x12,x1,x0,x15,x16,x17,x18,x0,x20,x21,x22,x23,x5,x25,x1_1,x27,(D_1 2),(D_1 3),x7,x31,x32,x33,x5,x35,x36,x37,x7,x39,x40,x41,x42,x42] ++ (Ad D_3 0 10 ([x54,x54] ++ (Ad D_4 0 10 ([x66] ++ (Ad D_2 29 8 (Ad D_1 49 13 [])))))))) <| wp_seq <| wp_block <| wp_skip <| block_normal <| then_normal <| freq (mk ([x0,x1_1,ud,ud,x7,x5,x0,x7,x7,x9,x10,x1,x12,x1,x0,x15,x16,x17,x18,x0,x20,x21,x22,x23,x5,x25,x1_1,x27,(D_1 2),(D_1 3),x7,x31,x32,x33,x5,x35,x36,x37,x7,x39,x40,x41,x42,x42] ++ (Ad D_3 0 10 ([x54,x54] ++ (Ad D_4 0 10 ([x66] ++ (Ad D_2 29 8 (Ad D_1 49 13 [])))))))) <| lwp_list <| lsmove x7 <| lsp 68 (pnil H) fun x68 H => lsp 69 (poff underlying38 rfl sizeOf3 rfl H) fun x69 H => lsy 70 HA_8 (yld isAgg3 H) (fun x70 H => ?_)
        refine lsmove x5 <| lsp 72 (padd H) fun x72 H => lsp 73 (pnil H) fun x73 H => lsp 74 (poff underlying38 rfl sizeOf3 rfl H) fun x74 H => lsdn HA_8 (dstw sizeOf3 H) fun _ h_7 w_9 H HA_9 => ls_nil <| ⟨⟨(gd ([x7,x39,x40,x41,x42,x42] ++ (Ad D_3 0 10 ([x54,x54] ++ (Ad D_4 0 10 [x66,x7,x68,x69,x70,x5,x72,x73,x74]))))),h_7,by kernel_rfl,HA_9,H.1⟩, loop_lt HA_9.heap HA_7.heap (by kernel_rfl) (by kernel_rfl) H.2⟩
       ·refine wp_exit <| then_exit <| then_exit <| block_exit <| then_normal <| freq (mk ([x0,x1_1,ud,ud,x7,x5,x0,x7,x7,x9,x10,x1,x12,x1,x0,x15,x16,x17,x18,x0,x20,x21,x22,x23,x5,x25,x1_1,x27,(D_1 2),(D_1 3),x7,x31,x32,x33,x5,x35,x36,x37,x7,x39,x40,x41,x42,x42] ++ (Ad D_3 0 10 ([x54,x54] ++ (Ad D_4 0 10 ([x66] ++ (Ad D_2 29 8 (Ad D_1 49 13 [])))))))) <| lwpmx (Nat.testBit 9216) (Nat.testBit 0) (Nat.testBit 6895) [0,0,2,6,14,0,32,96,224,480,1022,2047,4095,8191] (Nat.testBit 0) (fun h' => h' = h_6) [0,1,2,3,4,5,6,7,8,9,10,11,12,13] HA_8 rfl fun w_10 HA_10 => lmal x7 75 rfl (almove) <| lmal x7 76 rfl (almove) <| lmp 77 rfl (pnil H) fun x77 H => lmp 78 rfl (poff underlying38 rfl sizeOf3 rfl H) fun x78 H => lmf 79 rfl (of_eq (yld isAgg3 H)) fun x79 H => lmal x0 80 rfl (almove) ?_
        refine lmp 81 rfl (pnil H) fun x81 H => lmp 82 rfl (poff underlying64 rfl sizeOf3 rfl H) fun x82 H => lmf 83 rfl (of_eq (yld isAgg3 H)) fun x83 H => lmp 84 rfl (psub H) fun x84 H => lmd 85 rfl HA_10 (dcall H) fun x85 h_8 w_11 H HA_11 => lmp 86 rfl (pnil H) fun x86 H => lmp 87 rfl (poff underlying38 rfl sizeOf3 rfl H) fun x87 H => lmdn rfl HA_11 (dstw sizeOf3 H) fun _ h_9 w_12 H HA_12 => lm_nil <| block_normal <| then_normal <| freq (mk ([x0,x1_1,ud,ud,x7,x5,x0,x7,x7,x9,x10,x1,x12,x1,x0,x15,x16,x17,x18,x0,x20,x21,x22,x23,x5,x25,x1_1,x27,(D_1 2),(D_1 3),x7,x31,x32,x33,x5,x35,x36,x37,x7,x39,x40,x41,x42,x42] ++ (Ad D_3 0 10 ([x54,x54] ++ (Ad D_4 0 10 ([x66] ++ (Ad D_2 29 8 [x7,x7,x77,x78,x79,x0,x81,x82,x83,x84,x85,x86,x87]))))))) <| lwp_list <| lsmove x1_1 ?_
        refine lsp 29 (psub H) fun x29 H => lsassign x29 <| ls_nil <| ⟨⟨(gd ([x1_1,x27,x1_1,x29,x7,x31,x32,x33,x5,x35,x36,x37,x7,x39,x40,x41,x42,x42] ++ (Ad D_3 0 10 ([x54,x54] ++ (Ad D_4 0 10 ([x66] ++ (Ad D_2 29 8 [x7,x7,x77,x78,x79,x0,x81,x82,x83,x84,x85,x86,x87]))))))),x29,h_9,by kernel_rfl,HA_12,H.1⟩, loop_lt HA_12.heap HA_5.heap (by kernel_rfl) (by kernel_rfl) H.2⟩
   ·refine wp_exit <| then_exit <| then_exit <| block_exit <| end0 (results44) (by kernel_rfl) HA_5 H _ (.inl rfl)

end Go.Proofs.YtmhhjpfkipficaaDoor


end

section
/- The shallow reading of one function, and that the function does it. Written by a program. -/
set_option linter.unusedVariables false
namespace Go.Proofs.YtmhhjpfkipficaaDoor
open Go Go.HW _root_.Go.Proofs.Tryd

def screen_Screen_TabSet_S (x0 : Value) (h : Heap) (R : Value → Heap → Prop) : Prop :=
  ∃ C : Heap → Prop, C h ∧ (screen_Screen_cur_c x0 h fun x4 h => C h ∧ (
  sNil x4 fun x5 =>
  sOff x5 0 fun x6 =>
  sLdC C x6 fun x7 =>
  sNil x0 fun x8 =>
  sOff x8 21 fun x9 =>
  sIxA x9 x7 512 1 fun x10 =>
  sSt h x10 (.bool true) fun h_1 => 
  R unit h_1))
set_option maxRecDepth 100000 in
theorem screen_Screen_TabSet_runs {x0 : Value} {h : Heap} {R : Value → Heap → Prop} (H : screen_Screen_TabSet_S x0 h R) : screen_Screen_TabSet_c x0 h R := by
 unfold screen_Screen_TabSet_S at H
 refine runsof (b := (mk (Ap [x0] 10))) call46 func46 rfl (fun w0 HA => ?_)
 obtain ⟨C,HC,H⟩ := H
 refine lwpmx (Nat.testBit 516) (Nat.testBit 4) (Nat.testBit 475) [0,0,2,6,14,30,1,65,255,511] (Nat.testBit 0) C [0,1,2,3,4,5,6,7,8,9] HA HC fun w HA => lmal x0 2 rfl (almove) <| lmal x0 3 rfl (almove) <| lmdc 4 rfl HA (dcall H) fun x4 h w_1 H HA_1 => lmp 5 rfl (pnil H) fun x5 H => lmp 6 rfl (poff underlying38 rfl sizeOf3 rfl H) fun x6 H => lmf 7 rfl (cld isAgg3 H) fun x7 H => lmp 8 rfl (pnil H) fun x8 H => lmp 9 rfl (poff underlying64 rfl sizeOf62 rfl H) fun x9 H => lmp 10 rfl (pixa underlying62 sizeOf4 H) fun x10 H => lmdn rfl HA_1 (dstw sizeOf4 H) fun _ h_1 w_2 H HA_2 => lm_nil <| end0 (results46) (by kernel_rfl) HA_2 H _ (.inl rfl)

end Go.Proofs.YtmhhjpfkipficaaDoor


end

section
/- The shallow reading of one function, and that the function does it. Written by a program. -/
set_option linter.unusedVariables false
namespace Go.Proofs.YtmhhjpfkipficaaDoor
open Go Go.HW _root_.Go.Proofs.Tryd

def screen_Screen_TabClear_S (x0 x1 : Value) (h : Heap) (R : Value → Heap → Prop) : Prop :=
  sIf x1 (sBuild #[.bool false, .bool false, .bool false, .bool false, .bool false, .bool false, .bool false, .bool false, .bool false, .bool false, .bool false, .bool false, .bool false, .bool false, .bool false, .bool false, .bool false, .bool false, .bool false, .bool false, .bool false, .bool false, .bool false, .bool false, .bool false, .bool false, .bool false, .bool false, .bool false, .bool false, .bool false, .bool false, .bool false, .bool false, .bool false, .bool false, .bool false, .bool false, .bool false, .bool false, .bool false, .bool false, .bool false, .bool false, .bool false, .bool false, .bool false, .bool false, .bool false, .bool false, .bool false, .bool false, .bool false, .bool false, .bool false, .bool false, .bool false, .bool false, .bool false, .bool false, .bool false, .bool false, .bool false, .bool false, .bool false, .bool false, .bool false, .bool false, .bool false, .bool false, .bool false, .bool false, .bool false, .bool false, .bool false, .bool false, .bool false, .bool false, .bool false, .bool false, .bool false, .bool false, .bool false, .bool false, .bool false, .bool false, .bool false, .bool false, .bool false, .bool false, .bool false, .bool false, .bool false, .bool false, .bool false, .bool false, .bool false, .bool false, .bool false, .bool false, .bool false, .bool false, .bool false, .bool false, .bool false, .bool false, .bool false, .bool false, .bool false, .bool false, .bool false, .bool false, .bool false, .bool false, .bool false, .bool false, .bool false, .bool false, .bool false, .bool false, .bool false, .bool false, .bool false, .bool false, .bool false, .bool false, .bool false, .bool false, .bool false, .bool false, .bool false, .bool false, .bool false, .bool false, .bool false, .bool false, .bool false, .bool false, .bool false, .bool false, .bool false, .bool false, .bool false, .bool false, .bool false, .bool false, .bool false, .bool false, .bool false, .bool false, .bool false, .bool false, .bool false, .bool false, .bool false, .bool false, .bool false, .bool false, .bool false, .bool false, .bool false, .bool false, .bool false, .bool false, .bool false, .bool false, .bool false, .bool false, .bool false, .bool false, .bool false, .bool false, .bool false, .bool false, .bool false, .bool false, .bool false, .bool false, .bool false, .bool false, .bool false, .bool false, .bool false, .bool false, .bool false, .bool false, .bool false, .bool false, .bool false, .bool false, .bool false, .bool false, .bool false, .bool false, .bool false, .bool false, .bool false, .bool false, .bool false, .bool false, .bool false, .bool false, .bool false, .bool false, .bool false, .bool false, .bool false, .bool false, .bool false, .bool false, .bool false, .bool false, .bool false, .bool false, .bool false, .bool false, .bool false, .bool false, .bool false, .bool false, .bool false, .bool false, .bool false, .bool false, .bool false, .bool false, .bool false, .bool false, .bool false, .bool false, .bool false, .bool false, .bool false, .bool false, .bool false, .bool false, .bool false, .bool false, .bool false, .bool false, .bool false, .bool false, .bool false, .bool false, .bool false, .bool false, .bool false, .bool false, .bool false, .bool false, .bool false, .bool false, .bool false, .bool false, .bool false, .bool false, .bool false, .bool false, .bool false, .bool false, .bool false, .bool false, .bool false, .bool false, .bool false, .bool false, .bool false, .bool false, .bool false, .bool false, .bool false, .bool false, .bool false, .bool false, .bool false, .bool false, .bool false, .bool false, .bool false, .bool false, .bool false, .bool false, .bool false, .bool false, .bool false, .bool false, .bool false, .bool false, .bool false, .bool false, .bool false, .bool false, .bool false, .bool false, .bool false, .bool false, .bool false, .bool false, .bool false, .bool false, .bool false, .bool false, .bool false, .bool false, .bool false, .bool false, .bool false, .bool false, .bool false, .bool false, .bool false, .bool false, .bool false, .bool false, .bool false, .bool false, .bool false, .bool false, .bool false, .bool false, .bool false, .bool false, .bool false, .bool false, .bool false, .bool false, .bool false, .bool false, .bool false, .bool false, .bool false, .bool false, .bool false, .bool false, .bool false, .bool false, .bool false, .bool false, .bool false, .bool false, .bool false, .bool false, .bool false, .bool false, .bool false, .bool false, .bool false, .bool false, .bool false, .bool false, .bool false, .bool false, .bool false, .bool false, .bool false, .bool false, .bool false, .bool false, .bool false, .bool false, .bool false, .bool false, .bool false, .bool false, .bool false, .bool false, .bool false, .bool false, .bool false, .bool false, .bool false, .bool false, .bool false, .bool false, .bool false, .bool false, .bool false, .bool false, .bool false, .bool false, .bool false, .bool false, .bool false, .bool false, .bool false, .bool false, .bool false, .bool false, .bool false, .bool false, .bool false, .bool false, .bool false, .bool false, .bool false, .bool false, .bool false, .bool false, .bool false, .bool false, .bool false, .bool false, .bool false, .bool false, .bool false, .bool false, .bool false, .bool false, .bool false, .bool false, .bool false, .bool false, .bool false, .bool false, .bool false, .bool false, .bool false, .bool false, .bool false, .bool false, .bool false, .bool false, .bool false, .bool false, .bool false, .bool false, .bool false, .bool false, .bool false, .bool false, .bool false, .bool false, .bool false, .bool false, .bool false, .bool false, .bool false, .bool false, .bool false, .bool false, .bool false, .bool false, .bool false, .bool false, .bool false, .bool false, .bool false, .bool false, .bool false, .bool false, .bool false, .bool false, .bool false, .bool false, .bool false, .bool false, .bool false, .bool false, .bool false, .bool false, .bool false, .bool false, .bool false, .bool false, .bool false, .bool false, .bool false, .bool false, .bool false, .bool false, .bool false, .bool false, .bool false, .bool false, .bool false, .bool false, .bool false, .bool false, .bool false, .bool false, .bool false, .bool false, .bool false, .bool false, .bool false, .bool false, .bool false, .bool false, .bool false, .bool false, .bool false, .bool false, .bool false, .bool false, .bool false, .bool false, .bool false, .bool false, .bool false, .bool false, .bool false, .bool false, .bool false, .bool false, .bool false, .bool false, .bool false, .bool false, .bool false, .bool false, .bool false, .bool false] [] fun x6 =>
  sNil x0 fun x7 =>
  sOff x7 21 fun x8 =>
  sStN h x8 x6 512 fun h => 
  R unit h) (∃ C : Heap → Prop, C h ∧ (screen_Screen_cur_c x0 h fun x11 h_1 => C h_1 ∧ (
  sNil x11 fun x12 =>
  sOff x12 0 fun x13 =>
  sLdC C x13 fun x14 =>
  sNil x0 fun x15 =>
  sOff x15 21 fun x16 =>
  sIxA x16 x14 512 1 fun x17 =>
  sSt h_1 x17 (.bool false) fun h_2 => 
  R unit h_2)))
set_option maxRecDepth 100000 in
theorem screen_Screen_TabClear_runs {x0 x1 : Value} {h : Heap} {R : Value → Heap → Prop} (H : screen_Screen_TabClear_S x0 x1 h R) : screen_Screen_TabClear_c x0 x1 h R := by
 unfold screen_Screen_TabClear_S at H
 refine runsof (b := (mk (Ap [x0,x1] 16))) call48 func48 rfl fun w0 HA => wp_seq <| wp_seq (lwp_list ?_)
 refine lsmove x1 <| ls_nil (then_normal ?_)
 refine freq (mk (Ap [x0,x1,ud,ud,x1] 13)) <| wp_if rfl H (fun H => ?_) (fun H => ?_)
 ·refine wp_seq (lwp_list ?_)
  refine lsmove x0 <| lsp 6 (p_litA zeroValue62 underlying62 sizeOf4 (by kernel_rfl) (by kernel_rfl) H) fun x6 H => lsp 7 (pnil H) fun x7 H => lsp 8 (poff underlying64 rfl sizeOf62 rfl H) fun x8 H => lsdn HA (dstn sizeOf62 H) fun _ h w H HA => ls_nil (then_normal ?_)
  refine freq (mk (Ap [x0,x1,ud,ud,x1,x0,x6,x7,x8] 9)) <| wp_ret <| then_ret <| end0 (results48) (by kernel_rfl) HA H _ (.inr rfl)
 ·refine wp_skip <| then_normal <| freq (mk (Ap [x0,x1,ud,ud,x1] 13)) ?_
  obtain ⟨C,HC,H⟩ := H
  refine lwpmx (Nat.testBit 516) (Nat.testBit 4) (Nat.testBit 475) [0,0,2,6,14,30,1,65,255,511] (Nat.testBit 0) C [0,1,2,3,4,5,6,7,8,9] HA HC fun w_1 HA_1 => lmal x0 9 rfl (almove) <| lmal x0 10 rfl (almove) <| lmdc 11 rfl HA_1 (dcall H) fun x11 h_1 w_2 H HA_2 => lmp 12 rfl (pnil H) fun x12 H => lmp 13 rfl (poff underlying38 rfl sizeOf3 rfl H) fun x13 H => lmf 14 rfl (cld isAgg3 H) fun x14 H => lmp 15 rfl (pnil H) fun x15 H => lmp 16 rfl (poff underlying64 rfl sizeOf62 rfl H) fun x16 H => lmp 17 rfl (pixa underlying62 sizeOf4 H) fun x17 H => lmdn rfl HA_2 (dstw sizeOf4 H) fun _ h_2 w_3 H HA_3 => lm_nil <| end0 (results48) (by kernel_rfl) HA_3 H _ (.inl rfl)

end Go.Proofs.YtmhhjpfkipficaaDoor


end

section
/- The shallow reading of one function, and that the function does it. Written by a program. -/
set_option linter.unusedVariables false
namespace Go.Proofs.YtmhhjpfkipficaaDoor
open Go Go.HW _root_.Go.Proofs.Tryd

def screen_Screen_Save_S (x0 : Value) (h : Heap) (R : Value → Heap → Prop) : Prop :=
  sNil x0 fun x4 =>
  sOff x4 3 fun x5 =>
  sLdN h x5 7 fun x6 =>
  sNil x0 fun x7 =>
  sOff x7 10 fun x8 =>
  sStN h x8 x6 7 fun h => 
  R unit h
set_option maxRecDepth 100000 in
theorem screen_Screen_Save_runs {x0 : Value} {h : Heap} {R : Value → Heap → Prop} (H : screen_Screen_Save_S x0 h R) : screen_Screen_Save_c x0 h R := by
 unfold screen_Screen_Save_S at H
 refine runsof (b := (mk (Ap [x0] 8))) call61 func61 rfl fun w0 HA => lwp_list <| lsmove x0 <| lsmove x0 <| lsp 4 (pnil H) fun x4 H => lsp 5 (poff underlying64 rfl sizeOf61 rfl H) fun x5 H => lsy 6 HA (yldn isAgg61 sizeOf61 H) fun x6 H => lsp 7 (pnil H) fun x7 H => lsp 8 (poff underlying64 rfl sizeOf61 rfl H) fun x8 H => lsdn HA (dstn sizeOf61 H) fun _ h w H HA => ls_nil <| end0 (results61) (by kernel_rfl) HA H _ (.inl rfl)

end Go.Proofs.YtmhhjpfkipficaaDoor


end

section
/- The shallow reading of one function, and that the function does it. Written by a program. -/
set_option linter.unusedVariables false
namespace Go.Proofs.YtmhhjpfkipficaaDoor
open Go Go.HW _root_.Go.Proofs.Tryd

def screen_Screen_Restore_S (x0 : Value) (h : Heap) (R : Value → Heap → Prop) : Prop :=
  sNil x0 fun x5 =>
  sOff x5 10 fun x6 =>
  sLdN h x6 7 fun x7 =>
  sNil x0 fun x8 =>
  sOff x8 3 fun x9 =>
  sStN h x9 x7 7 fun h => 
  screen_Screen_cur_c x0 h fun x11 h_1 => 
  ∃ C : Heap → Prop, C h_1 ∧ (sNil x11 fun x16 =>
  sOff x16 0 fun x17 =>
  sLd h_1 x17 fun x18 =>
  sNil x0 fun x20 =>
  sOff x20 1 fun x21 =>
  sLd h_1 x21 fun x22 =>
  sSub .i64 x22 (.int .i64 1) fun x23 =>
  screen_within_c x18 (.int .i64 0) x23 h_1 fun x24 h_2 => C h_2 ∧ (
  sNil x11 fun x26 =>
  sOff x26 1 fun x27 =>
  sLdC C x27 fun x28 =>
  sNil x0 fun x30 =>
  sOff x30 2 fun x31 =>
  sLdC C x31 fun x32 =>
  sSub .i64 x32 (.int .i64 1) fun x33 =>
  screen_within_c x28 (.int .i64 0) x33 h_2 fun x34 h_3 => 
  sNil x11 fun x35 =>
  sOff x35 0 fun x36 =>
  sSt h_3 x36 x24 fun h_4 => 
  sNil x11 fun x37 =>
  sOff x37 1 fun x38 =>
  sSt h_4 x38 x34 fun h_5 => 
  sNil x11 fun x39 =>
  sOff x39 2 fun x40 =>
  sSt h_5 x40 (.bool false) fun h_6 => 
  R unit h_6))
set_option maxRecDepth 100000 in
theorem screen_Screen_Restore_runs {x0 : Value} {h : Heap} {R : Value → Heap → Prop} (H : screen_Screen_Restore_S x0 h R) : screen_Screen_Restore_c x0 h R := by
 unfold screen_Screen_Restore_S at H
 refine runsof (b := (mk (Ap [x0] 40))) call63 func63 rfl fun w0 HA => wp_seq (lwp_list ?_)
 refine lsmove x0 <| lsmove x0 <| lsp 5 (pnil H) fun x5 H => lsp 6 (poff underlying64 rfl sizeOf61 rfl H) fun x6 H => lsy 7 HA (yldn isAgg61 sizeOf61 H) fun x7 H => lsp 8 (pnil H) fun x8 H => lsp 9 (poff underlying64 rfl sizeOf61 rfl H) fun x9 H => lsdn HA (dstn sizeOf61 H) fun _ h w H HA => ls_nil (then_normal ?_)
 refine freq (mk (Ap [x0,ud,ud,x0,x0,x5,x6,x7,x8,x9] 31)) <| wp_seq (lwp_list ?_)
 refine lsmove x0 <| lsd 11 HA (dcall H) fun x11 h_1 w_1 H HA_1 => lsassign x11 <| ls_nil (then_normal ?_)
 refine freq (mk (Ap [x0,ud,x11,x0,x0,x5,x6,x7,x8,x9,x0,x11] 29)) ?_
 obtain ⟨C,HC,H⟩ := H
 refine lwpmx (Nat.testBit 2453671936) (Nat.testBit 4096) (Nat.testBit 1840180159) [0,0,0,0,8,24,56,0,128,384,896,1920,4088,0,8192,24576,57344,0,131072,393216,917504,1966080,4194296,8388601,16777209,33554425,67108859,134217723,268435451,536870911,1073741823,2147483647] (Nat.testBit 1088) C [0,1,2,3,4,5,6,7,8,9,10,11,12,13,14,15,16,17,18,19,20,21,22,23,24,25,26,27,28,29,30,31] HA_1 HC fun w_2 HA_2 => lmal x11 12 rfl (almove) <| lmal x11 13 rfl (almove) <| lmal x11 14 rfl (almove) <| lmal x11 15 rfl (almove) <| lmp 16 rfl (pnil H) fun x16 H => lmp 17 rfl (poff underlying38 rfl sizeOf3 rfl H) fun x17 H => lmb 18 rfl (yld isAgg3 H) fun x18 H => lmal x0 19 rfl (almove) <| lmp 20 rfl (pnil H) fun x20 H => lmp 21 rfl (poff underlying64 rfl sizeOf3 rfl H) fun x21 H => lmb 22 rfl (yld isAgg3 H) fun x22 H => lmp 23 rfl (psub H) (fun x23 H => ?_)
 refine lmdc 24 rfl HA_2 (dcall H) fun x24 h_2 w_3 H HA_3 => lmal x11 25 rfl (almove) <| lmp 26 rfl (pnil H) fun x26 H => lmp 27 rfl (poff underlying38 rfl sizeOf3 rfl H) fun x27 H => lmf 28 rfl (cld isAgg3 H) fun x28 H => lmal x0 29 rfl (almove) <| lmp 30 rfl (pnil H) fun x30 H => lmp 31 rfl (poff underlying64 rfl sizeOf3 rfl H) fun x31 H => lmf 32 rfl (cld isAgg3 H) fun x32 H => lmp 33 rfl (psub H) fun x33 H => lmd 34 rfl HA_3 (dcall H) fun x34 h_3 w_4 H HA_4 => lmp 35 rfl (pnil H) fun x35 H => lmp 36 rfl (poff underlying38 rfl sizeOf3 rfl H) fun x36 H => lmdn rfl HA_4 (dstw sizeOf3 H) (fun _ h_4 w_5 H HA_5 => ?_)
 refine lmp 37 rfl (pnil H) fun x37 H => lmp 38 rfl (poff underlying38 rfl sizeOf3 rfl H) fun x38 H => lmdn rfl HA_5 (dstw sizeOf3 H) fun _ h_5 w_6 H HA_6 => lmp 39 rfl (pnil H) fun x39 H => lmp 40 rfl (poff underlying38 rfl sizeOf4 rfl H) fun x40 H => lmdn rfl HA_6 (dstw sizeOf4 H) fun _ h_6 w_7 H HA_7 => lm_nil <| end0 (results63) (by kernel_rfl) HA_7 H _ (.inl rfl)

end Go.Proofs.YtmhhjpfkipficaaDoor


end

section
/- The shallow reading of one function, and that the function does it. Written by a program. -/
set_option linter.unusedVariables false
namespace Go.Proofs.YtmhhjpfkipficaaDoor
open Go Go.HW _root_.Go.Proofs.Tryd

def screen_Screen_Margins_S (x0 x1 x2 : Value) (h : Heap) (R : Value → Heap → Prop) : Prop :=
  sLt x1 (.int .i64 0) fun x8 =>
  sOr x8 (fun k_1 =>
  sNil x0 fun x12 =>
  sOff x12 2 fun x13 =>
  sLd h x13 fun x14 =>
  sSub .i64 x14 (.int .i64 1) fun x15 =>
  sGt x2 x15 fun x16 =>
  k_1 x16) fun x17 =>
  sOr x17 (fun k =>
  sGe x1 x2 fun x21 =>
  k x21) fun x22 =>
  sIf x22 (R (.bool false) h) (sNil x0 fun x27 =>
  sOff x27 19 fun x28 =>
  sSt h x28 x1 fun h => 
  sNil x0 fun x29 =>
  sOff x29 20 fun x30 =>
  sSt h x30 x2 fun h_1 => 
  screen_Screen_Move_c x0 (.int .i64 0) (.int .i64 0) h_1 fun x32 h_2 => 
  R (.bool true) h_2)
set_option maxRecDepth 100000 in
theorem screen_Screen_Margins_runs {x0 x1 x2 : Value} {h : Heap} {R : Value → Heap → Prop} (H : screen_Screen_Margins_S x0 x1 x2 h R) : screen_Screen_Margins_c x0 x1 x2 h R := by
 unfold screen_Screen_Margins_S at H
 refine runsof (b := (mk (Ap [x0,x1,x2] 30))) call57 func57 rfl fun w0 HA => wp_seq (lwp_list ?_)
 refine lsassign (.bool false) <| ls_nil (then_normal ?_)
 refine freq (mk (Ap [x0,x1,x2,ud,ud,ud,(.bool false)] 26)) <| wp_seq <| wp_seq (lwp_list ?_)
 refine lsmove x1 <| lsp 8 (psLt H) fun x8 H => lsmove x8 <| ls_or [(),(),(),(),(),(),(),()] (fun K a w => ∃ (D : Nat → Value) (x17 : Value),a = (mk ([x0,x1,x2,ud,ud,ud,(.bool false),x1,x8,x8] ++ (Ad D 0 7 (Ap [x17] 15)))) ∧ At w0 w h ∧ K x17) H (fun hb_1 H => ?_) (fun hb_1 H => ?_) ?_
 ·refine lsmove (hg := by rw [hb_1]; kernel_rfl) x2 <| lsmove (hg := by rw [hb_1]; kernel_rfl) x0 <| lsp (hg := by rw [hb_1]; kernel_rfl) 12 (pnil H) fun x12 H => lsp (hg := by rw [hb_1]; kernel_rfl) 13 (poff underlying64 rfl sizeOf3 rfl H) fun x13 H => lsy (hg := by rw [hb_1]; kernel_rfl) 14 HA (yld isAgg3 H) fun x14 H => lsp (hg := by rw [hb_1]; kernel_rfl) 15 (psub H) fun x15 H => lsp (hg := by rw [hb_1]; kernel_rfl) 16 (psGt H) fun x16 H => lspickf x16 (by rw [hb_1]; kernel_rfl) <| ls_nil (then_normal ?_)
  exact ⟨(gd ([x2,x0,x12,x13,x14,x15,x16])),x16,by kernel_rfl,HA,H⟩
 ·refine lsskip (hg := by rw [hb_1]; kernel_rfl) 10 <| lsskip (hg := by rw [hb_1]; kernel_rfl) 11 <| lsskip (hg := by rw [hb_1]; kernel_rfl) 12 <| lsskip (hg := by rw [hb_1]; kernel_rfl) 13 <| lsskip (hg := by rw [hb_1]; kernel_rfl) 14 <| lsskip (hg := by rw [hb_1]; kernel_rfl) 15 <| lsskip (hg := by rw [hb_1]; kernel_rfl) 16 <| lspickt (.bool true) (by rw [hb_1]; kernel_rfl) <| ls_nil (then_normal ?_)
  exact ⟨(gd (Ap [] 7)),(.bool true),by kernel_rfl,HA,H⟩
 ·rintro _ w ⟨D,x17,rfl,HA,H⟩
  refine lsmove x17 <| ls_or [(),(),(),()] (fun K a w => ∃ (D_1 : Nat → Value) (x22 : Value),a = (mk ([x0,x1,x2,ud,ud,ud,(.bool false),x1,x8,x8] ++ (Ad D 0 7 (Ap [x17,x17,(D_1 0),(D_1 1),(D_1 2),x22] 10)))) ∧ At w0 w h ∧ K x22) H (fun hb H => ?_) (fun hb H => ?_) ?_
  ·refine lsmove (hg := by rw [hb]; kernel_rfl) x1 <| lsmove (hg := by rw [hb]; kernel_rfl) x2 <| lsp (hg := by rw [hb]; kernel_rfl) 21 (psGe H) fun x21 H => lspickf x21 (by rw [hb]; kernel_rfl) <| ls_nil (then_normal ?_)
   exact ⟨(gd ([x1,x2,x21])),x21,by kernel_rfl,HA,H⟩
  ·refine lsskip (hg := by rw [hb]; kernel_rfl) 19 <| lsskip (hg := by rw [hb]; kernel_rfl) 20 <| lsskip (hg := by rw [hb]; kernel_rfl) 21 <| lspickt (.bool true) (by rw [hb]; kernel_rfl) <| ls_nil (then_normal ?_)
   exact ⟨(gd ([ud,ud,ud])),(.bool true),by kernel_rfl,HA,H⟩
  ·rintro _ w_1 ⟨D_1,x22,rfl,HA_1,H⟩
   refine ls_nil (then_normal ?_)
   refine freq (mk ([x0,x1,x2,ud,ud,ud,(.bool false),x1,x8,x8] ++ (Ad D 0 7 (Ap [x17,x17,(D_1 0),(D_1 1),(D_1 2),x22] 10)))) <| wp_if rfl H (fun H => ?_) (fun H => ?_)
   ·refine wp_seq (lwp_list ?_)
    refine lsassign (.bool false) <| ls_nil (then_normal ?_)
    refine freq (mk ([x0,x1,x2,ud,ud,ud,(.bool false),x1,x8,x8] ++ (Ad D 0 7 (Ap [x17,x17,(D_1 0),(D_1 1),(D_1 2),x22] 10)))) <| wp_ret <| then_ret <| end1 (results57) (by kernel_rfl) (by kernel_rfl) HA_1 H _ (.inr rfl)
   ·refine wp_skip <| then_normal <| freq (mk ([x0,x1,x2,ud,ud,ud,(.bool false),x1,x8,x8] ++ (Ad D 0 7 (Ap [x17,x17,(D_1 0),(D_1 1),(D_1 2),x22] 10)))) <| wp_seq (lwp_list ?_)
    refine lsmove x0 <| lsmove x0 <| lsmove x1 <| lsmove x2 <| lsp 27 (pnil H) fun x27 H => lsp 28 (poff underlying64 rfl sizeOf3 rfl H) fun x28 H => lsdn HA_1 (dstw sizeOf3 H) fun _ h w_2 H HA_2 => lsp 29 (pnil H) fun x29 H => lsp 30 (poff underlying64 rfl sizeOf3 rfl H) fun x30 H => lsdn HA_2 (dstw sizeOf3 H) fun _ h_1 w_3 H HA_3 => ls_nil (then_normal ?_)
    refine freq (mk ([x0,x1,x2,ud,ud,ud,(.bool false),x1,x8,x8] ++ (Ad D 0 7 [x17,x17,(D_1 0),(D_1 1),(D_1 2),x22,x0,x0,x1,x2,x27,x28,x29,x30,ud,ud]))) <| wp_seq (lwp_list ?_)
    refine lsmove x0 <| lsd 32 HA_3 (dcall H) fun x32 h_2 w_4 H HA_4 => ls_nil (then_normal ?_)
    refine freq (mk ([x0,x1,x2,ud,ud,ud,(.bool false),x1,x8,x8] ++ (Ad D 0 7 [x17,x17,(D_1 0),(D_1 1),(D_1 2),x22,x0,x0,x1,x2,x27,x28,x29,x30,x0,x32]))) <| wp_seq (lwp_list ?_)
    refine lsassign (.bool true) <| ls_nil (then_normal ?_)
    refine freq (mk ([x0,x1,x2,ud,ud,ud,(.bool true),x1,x8,x8] ++ (Ad D 0 7 [x17,x17,(D_1 0),(D_1 1),(D_1 2),x22,x0,x0,x1,x2,x27,x28,x29,x30,x0,x32]))) <| wp_ret <| end1 (results57) (by kernel_rfl) (by kernel_rfl) HA_4 H _ (.inr rfl)

end Go.Proofs.YtmhhjpfkipficaaDoor


end

section
/- The shallow reading of one function, and that the function does it. Written by a program. -/
set_option linter.unusedVariables false
namespace Go.Proofs.YtmhhjpfkipficaaDoor
open Go Go.HW _root_.Go.Proofs.Tryd

def screen_Screen_Mode_j1 (R : Value → Heap → Prop) (x0 : Value) (h : Heap) : Prop :=
  screen_Screen_cur_c x0 h fun x30 h_1 => 
  sNil x30 fun x31 =>
  sOff x31 2 fun x32 =>
  sSt h_1 x32 (.bool false) fun h_2 => 
  R (.bool true) h_2
def screen_Screen_Mode_S (x0 x1 x2 : Value) (h : Heap) (R : Value → Heap → Prop) : Prop :=
  sEq x1 (.int .i64 1) fun x9 =>
  sIf x9 (sNil x0 fun x12 =>
  sOff x12 3 fun x13 =>
  sOff x13 6 fun x14 =>
  sSt h x14 x2 fun h_3 => 
  screen_Screen_Move_c x0 (.int .i64 0) (.int .i64 0) h_3 fun x16 h_4 => 
  screen_Screen_Mode_j1 R x0 h_4) (sEq x1 (.int .i64 2) fun x18 =>
  sIf x18 (sNil x0 fun x21 =>
  sOff x21 17 fun x22 =>
  sSt h x22 x2 fun h_5 => 
  screen_Screen_Mode_j1 R x0 h_5) (sEq x1 (.int .i64 3) fun x24 =>
  sIf x24 (sNil x0 fun x27 =>
  sOff x27 18 fun x28 =>
  sSt h x28 x2 fun h_6 => 
  screen_Screen_Mode_j1 R x0 h_6) (R (.bool false) h)))
set_option maxRecDepth 100000 in
theorem screen_Screen_Mode_runs {x0 x1 x2 : Value} {h : Heap} {R : Value → Heap → Prop} (H : screen_Screen_Mode_S x0 x1 x2 h R) : screen_Screen_Mode_c x0 x1 x2 h R := by
 unfold screen_Screen_Mode_S at H
 refine runsof (b := (mk (Ap [x0,x1,x2] 30))) call59 func59 rfl fun w0 HA => wp_seq (lwp_list ?_)
 refine lsassign (.bool false) <| ls_nil (then_normal ?_)
 refine freq (mk (Ap [x0,x1,x2,ud,ud,ud,(.bool false)] 26)) <| wp_seq <| wp_seq (lwp_list ?_)
 refine lsmove x1 <| ls_nil (then_normal ?_)
 refine freq (mk (Ap [x0,x1,x2,ud,ud,ud,(.bool false),x1] 25)) <| wp_join (fun a w => ∃ (D : Nat → Value) (h : Heap),a = (mk ([x0,x1,x2,ud,ud,ud,(D 0),x1] ++ (Ad D 1 21 (Ap [] 4)))) ∧ At w0 w h ∧ screen_Screen_Mode_j1 R x0 h) ?_ ?_
 ·refine wp_block <| wp_seq (lwp_list ?_)
  refine lsp 9 (psEq H) fun x9 H => lsassign x9 <| ls_nil (then_normal ?_)
  refine freq (mk (Ap [x0,x1,x2,ud,ud,ud,(.bool false),x1,x9,x9] 23)) <| wp_if rfl H (fun H => ?_) (fun H => ?_)
  ·refine wp_seq (lwp_list ?_)
   refine lsmove x0 <| lsmove x2 <| lsp 12 (pnil H) fun x12 H => lsp 13 (poff underlying64 rfl sizeOf61 rfl H) fun x13 H => lsp 14 (poff underlying61 rfl sizeOf4 rfl H) fun x14 H => lsdn HA (dstw sizeOf4 H) fun _ h_3 w_3 H HA_3 => ls_nil (then_normal ?_)
   refine freq (mk (Ap [x0,x1,x2,ud,ud,ud,(.bool false),x1,x9,x9,x0,x2,x12,x13,x14] 18)) <| lwp_list <| lsmove x0 <| lsd 16 HA_3 (dcall H) fun x16 h_4 w_4 H HA_4 => ls_nil <| block_normal <| ⟨(gd (Ap [(.bool false),x9,x9,x0,x2,x12,x13,x14,x0,x16] 12)),h_4,by kernel_rfl,HA_4,H⟩
  ·refine wp_seq (lwp_list ?_)
   refine lsp 18 (psEq H) fun x18 H => lsassign x18 <| ls_nil (then_normal ?_)
   refine freq (mk (Aq [x0,x1,x2,ud,ud,ud,(.bool false),x1,x9,x9] 7 (Ap [x18,x18] 14))) <| wp_if rfl H (fun H => ?_) (fun H => ?_)
   ·refine lwp_list <| lsmove x0 <| lsmove x2 <| lsp 21 (pnil H) fun x21 H => lsp 22 (poff underlying64 rfl sizeOf4 rfl H) fun x22 H => lsdn HA (dstw sizeOf4 H) fun _ h_5 w_5 H HA_5 => ls_nil <| block_normal <| ⟨(gd (Aq [(.bool false),x9,x9] 7 (Ap [x18,x18,x0,x2,x21,x22] 6))),h_5,by kernel_rfl,HA_5,H⟩
   ·refine wp_seq (lwp_list ?_)
    refine lsp 24 (psEq H) fun x24 H => lsassign x24 <| ls_nil (then_normal ?_)
    refine freq (mk (Aq [x0,x1,x2,ud,ud,ud,(.bool false),x1,x9,x9] 7 (Aq [x18,x18] 4 (Ap [x24,x24] 8)))) <| wp_if rfl H (fun H => ?_) (fun H => ?_)
    ·refine lwp_list <| lsmove x0 <| lsmove x2 <| lsp 27 (pnil H) fun x27 H => lsp 28 (poff underlying64 rfl sizeOf4 rfl H) fun x28 H => lsdn HA (dstw sizeOf4 H) fun _ h_6 w_6 H HA_6 => ls_nil <| block_normal <| ⟨(gd (Aq [(.bool false),x9,x9] 7 [x18,x18,ud,ud,ud,ud,x24,x24,x0,x2,x27,x28])),h_6,by kernel_rfl,HA_6,H⟩
    ·refine wp_seq (lwp_list ?_)
     refine lsassign (.bool false) <| ls_nil (then_normal ?_)
     refine freq (mk (Aq [x0,x1,x2,ud,ud,ud,(.bool false),x1,x9,x9] 7 (Aq [x18,x18] 4 (Ap [x24,x24] 8)))) <| wp_ret <| block_ret <| then_ret <| then_ret <| end1 (results59) (by kernel_rfl) (by kernel_rfl) HA H _ (.inr rfl)
 ·rintro _ w ⟨D,h,rfl,HA,H⟩
  unfold screen_Screen_Mode_j1 at H
  refine then_normal <| freq (mk ([x0,x1,x2,ud,ud,ud,(D 0),x1] ++ (Ad D 1 21 (Ap [] 4)))) <| wp_seq (lwp_list ?_)
  refine lsmove x0 <| lsd 30 HA (dcall H) fun x30 h_1 w_1 H HA_1 => lsp 31 (pnil H) fun x31 H => lsp 32 (poff underlying38 rfl sizeOf4 rfl H) fun x32 H => lsdn HA_1 (dstw sizeOf4 H) fun _ h_2 w_2 H HA_2 => ls_nil (then_normal ?_)
  refine freq (mk ([x0,x1,x2,ud,ud,ud,(D 0),x1] ++ (Ad D 1 21 [x0,x30,x31,x32]))) <| wp_seq (lwp_list ?_)
  refine lsassign (.bool true) <| ls_nil (then_normal ?_)
  refine freq (mk ([x0,x1,x2,ud,ud,ud,(.bool true),x1] ++ (Ad D 1 21 [x0,x30,x31,x32]))) <| wp_ret <| end1 (results59) (by kernel_rfl) (by kernel_rfl) HA_2 H _ (.inr rfl)

end Go.Proofs.YtmhhjpfkipficaaDoor


end

section
/- Screens: stops, margins, modes, what is saved. -/
set_option linter.unusedSimpArgs false
set_option linter.unusedVariables false
namespace Go.Proofs.YtmhhjpfkipficaaDoor
open Go Go.HW

section
variable {h0 h : Heap} {F : List HP} {R : Value → Heap → Prop} {k kg : Nat} {m : Sc} {C : Cel} {off : List (List Ce)} {y : Int}
theorem stop_ld {i : Nat} (z : HW.Sep h0 (Scr k m C off :: F) h) (hi : i < 512) : ∃ b, ∀ {K : Value → Prop}, sLd h (ptr k (21 + i)) K = K (.bool b) := by
  obtain ⟨kg, ov, rs, e, es, so⟩ := Sopen z
  have hl : i < m.st.length := by omega
  exact ⟨m.st[i], ldL so.has (scL_get hl)⟩
theorem TabSet_spec (z : HW.Sep h0 (Scr k m C off :: F) h) (o : OkS m) (H : ∀ st h', HW.Sep h0 (Scr k { m with st := st } C off :: F) h' → R unit h') : screen_Screen_TabSet_c (ptr k 0) h R := by
  apply screen_Screen_TabSet_runs
  unfold screen_Screen_TabSet_S
  have ox := o.x
  have ow := o.w
  obtain ⟨kg, ov, rs, e, es, so⟩ := Sopen z
  refine ⟨Hk k m kg ov, so.has, ?_⟩
  refine cur_spec ⟨so.has, ?_⟩
  obtain ⟨i, hi⟩ : ∃ i : Nat, m.x = i := ⟨m.x.toNat, by omega⟩
  rw [ev_nil, ev_off, Nat.add_zero, (rdc so.has).r3, ev_nil, ev_off, Nat.zero_add, hi, ev_ixa (by omega), Nat.mul_one]
  exact stStop z (by omega) (fun h' s' => H _ h' s')
set_option maxRecDepth 20000 in
theorem TabClear_spec {all : Bool} (z : HW.Sep h0 (Scr k m C off :: F) h) (o : OkS m) (H : ∀ st h', HW.Sep h0 (Scr k { m with st := st } C off :: F) h' → R unit h') : screen_Screen_TabClear_c (ptr k 0) (.bool all) h R := by
  apply screen_Screen_TabClear_runs
  unfold screen_Screen_TabClear_S
  have ox := o.x
  have ow := o.w
  rw [ev_if]
  cases all with
  | true =>
    rw [if_pos rfl]
    refine build_intro (cs := ((List.replicate 512 false).map Value.bool).toArray) (fill_k (by kernel_rfl)) ?_
    rw [ev_nil, ev_off, Nat.zero_add]
    obtain ⟨kg, ov, rs, e, es, so⟩ := Sopen z
    have hl : (List.replicate 512 false).length = 512 := List.length_replicate ..
    generalize List.replicate 512 false = L at hl ⊢
    refine so.stn (by simp [hl]) (by simp [sc_len, es]) (by intro u hu; simp at hu; rcases hu with ⟨_, rfl⟩ | ⟨_, rfl⟩ <;> trivial) (fun h' s' => H L h' ?_)
    have e2 : putRow (scL m kg ov).toArray 21 (L.map Value.bool).toArray.toList = (scL { m with st := L } kg ov).toArray := by
      rw [putRow_list]
      unfold scL
      have h21 : (scH m kg).length = 21 := rfl
      have := setL_mid (L.map Value.bool) (scH m kg) (m.st.map Value.bool) [ov] (by simp [es, hl])
      rw [h21] at this
      rw [List.toList_toArray, this]
      rfl
    rw [e2] at s'
    exact Sshut (m := { m with st := L }) e hl s'
  | false =>
    rw [if_neg (by decide)]
    obtain ⟨kg, ov, rs, e, es, so⟩ := Sopen z
    refine ⟨Hk k m kg ov, so.has, ?_⟩
    refine cur_spec ⟨so.has, ?_⟩
    obtain ⟨i, hi⟩ : ∃ i : Nat, m.x = i := ⟨m.x.toNat, by omega⟩
    rw [ev_nil, ev_off, Nat.add_zero, (rdc so.has).r3, ev_nil, ev_off, Nat.zero_add, hi, ev_ixa (by omega), Nat.mul_one]
    exact stStop z (by omega) (fun h' s' => H _ h' s')
def tabW (k : Nat) (st w : Int) (h : Heap) : Nat := match h.at k 3 with | some (.int _ x) => if st = 1 then (w - x).toNat else (x + 1).toNat | _ => 0
theorem at3 (z : HW.Sep h0 (Scr k m C off :: F) h) : h.at k 3 = some (.int .i64 m.x) := by
  obtain ⟨kg, ov, rs, e, es, so⟩ := Sopen z
  rw [so.has.at, List.getElem?_toArray]; rfl
theorem Tab_spec {n : Int} (z : HW.Sep h0 (Scr k m C off :: F) h) (o : OkS m) (H : ∀ x h', 0 ≤ x ∧ x < m.w → HW.Sep h0 (Scr k { m with x := x, late := false } C off :: F) h' → R unit h') : screen_Screen_Tab_c (ptr k 0) (.int .i64 n) h R := by
  apply screen_Screen_Tab_runs
  unfold screen_Screen_Tab_S
  have ox := o.x
  have ow := o.w
  refine cur_spec ?_
  simp only [ev_nil, ev_off, Nat.reduceAdd]
  refine st5 z (fun h1 s1 => ?_)
  have hj : ∀ st : Int, (st = 1 ∧ 0 ≤ n ∨ st = -1 ∧ n < 0) → screen_Screen_Tab_j1 R (ptr k 0) (.int .i64 n) (ptr k 3) (.int .i64 st) h1 := by
    intro st hst
    unfold screen_Screen_Tab_j1
    simp (disch := omega) only [ev_nil, ev_off, Nat.zero_add, (rd s1).r1, ev_neg, Int.zero_sub, wrap_i64]
    refine within_i ?_
    have hq : 0 ≤ withI n (-m.w) m.w * st ∧ withI n (-m.w) m.w * st ≤ 512 := by
      have h1 : -m.w ≤ withI n (-m.w) m.w ∧ withI n (-m.w) m.w ≤ m.w := withI_in (by omega)
      have h2 : 0 ≤ n → 0 ≤ withI n (-m.w) m.w := fun h => by unfold withI mnI mxI; split <;> split <;> omega
      have h3 : n < 0 → withI n (-m.w) m.w ≤ 0 := fun h => by unfold withI mnI mxI; split <;> split <;> omega
      rcases hst with ⟨rfl, hn⟩ | ⟨rfl, hn⟩ <;> omega
    generalize withI n (-m.w) m.w = q0 at hq ⊢
    rw [ev_mul, wrap_i64 (by omega) (by omega)]
    generalize q0 * st = q at hq ⊢
    refine ⟨fun t h' => ∃ (i x : Int), (i ≤ q ∧ 0 ≤ i) ∧ t = .int .i64 i ∧ (0 ≤ x ∧ x < m.w) ∧ HW.Sep h0 (Scr k { m with x := x, late := false } C off :: F) h', fun t _ => match t with | .int _ i => i.toNat | _ => 0, ⟨q, m.x, by omega, rfl, ox, s1⟩, ?_⟩
    rintro _ h3 ⟨i', x, hi, rfl, hx, s3⟩
    simp only []
    unfold screen_Screen_Tab_l2
    rw [ev_gt, ev_if]
    by_cases hp : i' > 0
    · rw [if_pos (decide_eq_true hp)]
      simp (disch := omega) only [ev_nil, ev_off, Nat.add_zero, (rd s3).r3, ev_add, wrap_i64]
      refine st3 s3 (fun h4 s4 => ?_)
      refine ⟨fun _ h' => ∃ x : Int, (-1 ≤ x ∧ x ≤ m.w) ∧ HW.Sep h0 (Scr k { m with x := x, late := false } C off :: F) h', fun _ h' => tabW k st m.w h', ⟨x + st, by omega, s4⟩, ?_⟩
      rintro _ h5 ⟨x5, hx5, s5⟩
      unfold screen_Screen_Tab_l3
      have hw5 : tabW k st m.w h5 = if st = 1 then (m.w - x5).toNat else (x5 + 1).toNat := by unfold tabW; rw [at3 s5]
      have hex : screen_within_c (.int .i64 x5) (.int .i64 0) (.int .i64 (m.w - 1)) h5 fun x85 h_8 =>
          sSt h_8 (ptr k 3) x85 fun h_9 => (∃ (i x : Int), (i ≤ q ∧ 0 ≤ i) ∧ Value.int .i64 (i' - 1) = .int .i64 i ∧ (0 ≤ x ∧ x < m.w) ∧ HW.Sep h0 (Scr k { m with x := x, late := false } C off :: F) h_9) ∧ (i' - 1).toNat < i'.toNat := by
        refine within_i (st3 s5 (fun h6 s6 => ⟨⟨i' - 1, _, by omega, rfl, ?_, s6⟩, by omega⟩))
        have : (0 : Int) ≤ withI x5 0 (m.w - 1) ∧ withI x5 0 (m.w - 1) ≤ m.w - 1 := withI_in (by omega)
        omega
      simp (disch := omega) only [ev_nil, ev_off, Nat.add_zero, Nat.zero_add, (rd s5).r3, (rd s5).r1, ev_sub, wrap_i64, ev_gt, ev_lt, ev_and_p, ev_add]
      by_cases hm : 0 < x5 ∧ x5 < m.w - 1
      · obtain ⟨j, hj⟩ : ∃ j : Nat, x5 = j := ⟨x5.toNat, by omega⟩
        obtain ⟨b, hb⟩ := stop_ld (i := j) s5 (by omega)
        rw [ev_and, if_pos (by simp; omega)]
        simp only [hj, ev_ixa (show j < 512 by omega), Nat.mul_one, hb, ev_not, ev_if]
        rw [← hj]
        cases b with
        | true => rw [if_neg (by decide)]; exact hex
        | false =>
          rw [if_pos (by decide)]
          refine st3 s5 (fun h6 s6 => ⟨⟨x5 + st, by omega, s6⟩, ?_⟩)
          have hw6 : tabW k st m.w h6 = if st = 1 then (m.w - (x5 + st)).toNat else (x5 + st + 1).toNat := by unfold tabW; rw [at3 s6]
          rw [hw5, hw6]
          rcases hst with ⟨rfl, _⟩ | ⟨rfl, _⟩
          · rw [if_pos rfl, if_pos rfl]; omega
          · rw [if_neg (by decide), if_neg (by decide)]; omega
      · rw [ev_and, if_neg (by simp; omega), ev_if, if_neg (by decide)]
        exact hex
    · rw [if_neg (by simpa using hp)]
      exact H x h3 hx s3
  rw [ev_lt, ev_if]
  by_cases hn : n < 0
  · rw [if_pos (decide_eq_true hn)]
    exact hj _ (.inr ⟨rfl, hn⟩)
  · rw [if_neg (by simpa using hn)]
    exact hj _ (.inl ⟨rfl, by omega⟩)
theorem Save_spec (z : HW.Sep h0 (Scr k m C off :: F) h) (H : ∀ h', HW.Sep h0 (Scr k (saveM m) C off :: F) h' → R unit h') : screen_Screen_Save_c (ptr k 0) h R := by
  apply screen_Screen_Save_runs
  unfold screen_Screen_Save_S
  simp only [ev_nil, ev_off, Nat.zero_add]
  rw [mldn z (cs := [.int .i64 m.x, .int .i64 m.y, .bool m.late, .int .i64 m.pf, .int .i64 m.pb, .int .i64 m.pg, .bool m.org]) (by decide) (fun _ _ => rfl)]
  exact mstn (m' := saveM m) z rfl (by decide) (by intro u hu; simp at hu; rcases hu with rfl | rfl | rfl | rfl | rfl | rfl | rfl <;> trivial) (fun _ _ => rfl) rfl rfl rfl H
theorem Restore_spec (z : HW.Sep h0 (Scr k m C off :: F) h) (o : OkS m) (H : ∀ h', HW.Sep h0 (Scr k (restM m) C off :: F) h' → R unit h') : screen_Screen_Restore_c (ptr k 0) h R := by
  apply screen_Screen_Restore_runs
  unfold screen_Screen_Restore_S
  have ow := o.w
  have og := o.g
  simp only [ev_nil, ev_off, Nat.zero_add]
  rw [mldn z (cs := [.int .i64 m.x', .int .i64 m.y', .bool m.late', .int .i64 m.pf', .int .i64 m.pb', .int .i64 m.pg', .bool m.org']) (by decide) (fun _ _ => rfl)]
  refine mstn (m' := { m with x := m.x', y := m.y', late := m.late', pf := m.pf', pb := m.pb', pg := m.pg', org := m.org' }) z rfl (by decide) (by intro u hu; simp at hu; rcases hu with rfl | rfl | rfl | rfl | rfl | rfl | rfl <;> trivial) (fun _ _ => rfl) rfl rfl rfl (fun h1 s1 => ?_)
  refine cur_spec ?_
  obtain ⟨kg, ov, rs, e, es, so⟩ := Sopen s1
  refine ⟨Hk k { m with x := m.x', y := m.y', late := m.late', pf := m.pf', pb := m.pb', pg := m.pg', org := m.org' } kg ov, so.has, ?_⟩
  simp (disch := omega) only [ev_nil, ev_off, Nat.zero_add, Nat.reduceAdd, Nat.add_zero, (rd s1).r3, (rd s1).r1, ev_sub, wrap_i64]
  refine within_i ⟨so.has, ?_⟩
  rw [(rdc so.has).r4, (rdc so.has).r2]
  simp (disch := omega) only [ev_sub, wrap_i64]
  refine within_i ?_
  exact st3 s1 (fun h2 s2 => st4 s2 (fun h3 s3 => st5 s3 H))
theorem Margins_spec {t b : Int} (z : HW.Sep h0 (Scr k m C off :: F) h) (o : OkS m) (H0 : R (.bool false) h) (H1 : (0 ≤ t ∧ t < b ∧ b < m.g) → ∀ h', HW.Sep h0 (Scr k (moveM { m with top := t, bot := b } 0 0) C off :: F) h' → R (.bool true) h') : screen_Screen_Margins_c (ptr k 0) (.int .i64 t) (.int .i64 b) h R := by
  apply screen_Screen_Margins_runs
  unfold screen_Screen_Margins_S
  have ow := o.w
  have og := o.g
  simp (disch := omega) only [ev_nil, ev_off, Nat.zero_add, (rd z).r2, ev_sub, wrap_i64, ev_lt, ev_gt, ev_ge, ev_or_p, ev_if, Bool.or_eq_true, decide_eq_true_eq]
  by_cases hc : (t < 0 ∨ b > m.g - 1) ∨ t ≥ b
  · rw [if_pos hc]
    exact H0
  rw [if_neg hc]
  refine mst (m' := { m with top := t }) z (by decide) trivial (fun _ _ => rfl) rfl rfl rfl (fun h1 s1 => ?_)
  refine mst (m' := { m with top := t, bot := b }) s1 (by decide) trivial (fun _ _ => rfl) rfl rfl rfl (fun h2 s2 => ?_)
  exact Move_spec s2 og ow (by simp only; omega) (fun h3 s3 => H1 (by omega) h3 s3)
theorem Mode_spec {n : Int} {on : Bool} (z : HW.Sep h0 (Scr k m C off :: F) h) (o : OkS m) (H0 : R (.bool false) h) (H1 : ∀ h', HW.Sep h0 (Scr k (moveM { m with org := on } 0 0) C off :: F) h' → R (.bool true) h') (H2 : ∀ h', HW.Sep h0 (Scr k { m with wrap := on, late := false } C off :: F) h' → R (.bool true) h') (H3 : ∀ h', HW.Sep h0 (Scr k { m with ins := on, late := false } C off :: F) h' → R (.bool true) h') : screen_Screen_Mode_c (ptr k 0) (.int .i64 n) (.bool on) h R := by
  apply screen_Screen_Mode_runs
  unfold screen_Screen_Mode_S
  have hj : ∀ (m' : Sc) (h1 : Heap), HW.Sep h0 (Scr k m' C off :: F) h1 → (∀ h', HW.Sep h0 (Scr k { m' with late := false } C off :: F) h' → R (.bool true) h') → screen_Screen_Mode_j1 R (ptr k 0) h1 := by
    intro m' h1 s1 H
    unfold screen_Screen_Mode_j1
    refine cur_spec ?_
    simp only [ev_nil, ev_off, Nat.reduceAdd]
    exact st5 s1 H
  simp only [ev_nil, ev_off, Nat.zero_add, Nat.reduceAdd, ev_eq, ev_if, beq_iff_eq]
  by_cases h1 : n = 1
  · rw [if_pos h1]
    refine mst (m' := { m with org := on }) z (by decide) trivial (fun _ _ => rfl) rfl rfl rfl (fun h1 s1 => ?_)
    refine Move_spec s1 o.g o.w o.t (fun h2 s2 => hj _ h2 s2 (fun h3 s3 => H1 h3 ?_))
    have e : { moveM { m with org := on } 0 0 with late := false } = moveM { m with org := on } 0 0 := by unfold moveM; simp only; split <;> rfl
    rwa [e] at s3
  rw [if_neg h1]
  by_cases h2 : n = 2
  · rw [if_pos h2]
    exact mst (m' := { m with wrap := on }) z (by decide) trivial (fun _ _ => rfl) rfl rfl rfl (fun h1 s1 => hj _ h1 s1 H2)
  rw [if_neg h2]
  by_cases h3 : n = 3
  · rw [if_pos h3]
    exact mst (m' := { m with ins := on }) z (by decide) trivial (fun _ _ => rfl) rfl rfl rfl (fun h1 s1 => hj _ h1 s1 H3)
  rw [if_neg h3]
  exact H0
end
end Go.Proofs.YtmhhjpfkipficaaDoor


end

section
/- Screens: what every act keeps; a character put, in general. -/
set_option linter.unusedSimpArgs false
set_option linter.unusedVariables false
namespace Go.Proofs.YtmhhjpfkipficaaDoor
open Go Go.HW

/-- What an act keeps. -/
structure Kp (m : Sc) (C : Cel) (off : List (List Ce)) (m' : Sc) (C' : Cel) (off' : List (List Ce)) : Prop where
  ok : OkS m'
  wh : wholeC C m.w m.g → wholeC C' m.w m.g
  of : off'.length ≤ off.length + 1024
  w : m'.w = m.w
  g : m'.g = m.g
  t : m'.top = m.top
  b : m'.bot = m.bot
  rg : IC C → IC C'
theorem RowTo.trans {C D E : Cel} {w y : Int} (a : RowTo C D w y) (b : RowTo D E w y) : RowTo C E w y := ⟨fun x y hy => by rw [b.other x y hy, a.other x y hy], fun h => b.whole (a.whole h), fun h => b.rng (a.rng h)⟩
theorem wholeR_of {C D : Cel} {w y y' : Int} (h : ∀ a, 0 ≤ a → a < w → D a y = C a y') (z : wholeR C w y') : wholeR D w y := fun x h0 h1 => by
  have := z x h0 h1
  rw [h x h0 h1]
  exact ⟨fun e => let ⟨p, q⟩ := this.1 e; ⟨p, by rw [h _ (by omega) p]; exact q⟩, fun e => let ⟨p, q⟩ := this.2 e; ⟨p, by rw [h _ (by omega) (by omega)]; exact q⟩⟩
theorem wt_00 : wt 0 = -1 := wt_low (by decide)
theorem wholeR_blank {D : Cel} {w y : Int} (h : ∀ a, 0 ≤ a → a < w → (D a y).r = 0) : wholeR D w y := fun x h0 h1 => by
  rw [h x h0 h1, wt_00]
  exact ⟨fun e => by omega, fun e => by omega⟩
theorem inG_t {w g x y : Int} (hx : 0 ≤ x ∧ x < w) (hy : 0 ≤ y ∧ y < g) : inG w g x y = true := by
  unfold inG; simp only [Bool.and_eq_true, decide_eq_true_eq]; omega
theorem up_whole {C : Cel} {w g top bot n pb : Int} (hn : 0 ≤ n) (ht : 0 ≤ top ∧ bot < g) (z : wholeC C w g) : wholeC (upF C w g top bot n ⟨0, 0, pb, 0⟩) w g := fun y h0 h1 => by
  by_cases hy : top ≤ y ∧ y ≤ bot
  · by_cases hb : y + n ≤ bot
    · refine wholeR_of (y' := y + n) (fun a a0 a1 => ?_) (z (y + n) (by omega) (by omega))
      unfold upF; rw [if_pos ⟨inG_t ⟨a0, a1⟩ ⟨h0, h1⟩, hy⟩, if_pos hb]
    · refine wholeR_blank (fun a a0 a1 => ?_)
      unfold upF; rw [if_pos ⟨inG_t ⟨a0, a1⟩ ⟨h0, h1⟩, hy⟩, if_neg hb]
  · refine wholeR_of (y' := y) (fun a a0 a1 => ?_) (z y h0 h1)
    unfold upF; rw [if_neg (fun e => hy e.2)]
theorem down_whole {C : Cel} {w g top bot n pb : Int} (hn : 0 ≤ n) (ht : 0 ≤ top ∧ bot < g) (z : wholeC C w g) : wholeC (downF C w g top bot n ⟨0, 0, pb, 0⟩) w g := fun y h0 h1 => by
  by_cases hy : top ≤ y ∧ y ≤ bot
  · by_cases hb : top + n ≤ y
    · refine wholeR_of (y' := y - n) (fun a a0 a1 => ?_) (z (y - n) (by omega) (by omega))
      unfold downF; rw [if_pos ⟨inG_t ⟨a0, a1⟩ ⟨h0, h1⟩, hy⟩, if_pos hb]
    · refine wholeR_blank (fun a a0 a1 => ?_)
      unfold downF; rw [if_pos ⟨inG_t ⟨a0, a1⟩ ⟨h0, h1⟩, hy⟩, if_neg hb]
  · refine wholeR_of (y' := y) (fun a a0 a1 => ?_) (z y h0 h1)
    unfold downF; rw [if_neg (fun e => hy e.2)]

section
variable {h0 h : Heap} {F : List HP} {R : Value → Heap → Prop} {k kg : Nat} {m : Sc} {C : Cel} {off : List (List Ce)}
theorem IC_upF {C : Cel} {w g top bot n : Int} {bl : Ce} (h : bl.r = 0) (i : IC C) : IC (upF C w g top bot n bl) := fun a b => by
  unfold upF; split
  · split
    · exact i _ _
    · rw [h]; exact i32_0
  · exact i a b
theorem IC_downF {C : Cel} {w g top bot n : Int} {bl : Ce} (h : bl.r = 0) (i : IC C) : IC (downF C w g top bot n bl) := fun a b => by
  unfold downF; split
  · split
    · exact i _ _
    · rw [h]; exact i32_0
  · exact i a b
theorem IC_upC {n : Int} (i : IC C) : IC (upC m C n) := by
  unfold upC; split
  · exact i
  · exact IC_upF rfl i
theorem IC_downC {top n : Int} (i : IC C) : IC (downC m C top n) := by
  unfold downC; split
  · exact i
  · exact IC_downF rfl i
theorem IC_lineC (i : IC C) : IC (lineC m C) := by
  unfold lineC; split
  · exact IC_upC i
  · exact i
theorem upC_whole {n : Int} (ht : 0 ≤ m.top ∧ m.bot < m.g) (z : wholeC C m.w m.g) : wholeC (upC m C n) m.w m.g := by
  unfold upC; split
  · exact z
  · exact up_whole (by omega) ht z
theorem downC_whole {top n : Int} (ht : 0 ≤ top ∧ m.bot < m.g) (z : wholeC C m.w m.g) : wholeC (downC m C top n) m.w m.g := by
  unfold downC; split
  · exact z
  · exact down_whole (by omega) ht z
theorem upO_len {n : Int} (o : OkS m) : (upO m C off n).length ≤ off.length + 512 := by
  have := o.t; have := o.g
  unfold upO upN mnI
  split
  · rw [List.length_append, List.length_map, List.length_range]; split <;> omega
  · omega
theorem line_ok (o : OkS m) : OkS (lineM m) := by
  have oy := o.y
  unfold lineM
  split
  · exact ⟨o.w, o.g, o.x, o.y, o.t, fun h => (nomatch h)⟩
  · split
    · exact ⟨o.w, o.g, o.x, ⟨by simp only; omega, by simp only; omega⟩, o.t, fun h => (nomatch h)⟩
    · exact ⟨o.w, o.g, o.x, o.y, o.t, fun h => (nomatch h)⟩
theorem line_dim : (lineM m).w = m.w ∧ (lineM m).g = m.g ∧ (lineM m).top = m.top ∧ (lineM m).bot = m.bot ∧ (lineM m).late = false ∧ (lineM m).ins = m.ins ∧ (lineM m).wrap = m.wrap ∧ (lineM m).x = m.x := by
  unfold lineM; split
  · exact ⟨rfl, rfl, rfl, rfl, rfl, rfl, rfl, rfl⟩
  · split <;> exact ⟨rfl, rfl, rfl, rfl, rfl, rfl, rfl, rfl⟩
theorem lineC_whole (o : OkS m) (z : wholeC C m.w m.g) : wholeC (lineC m C) m.w m.g := by
  have := o.t
  unfold lineC; split
  · exact upC_whole (by omega) z
  · exact z
theorem lineO_len (o : OkS m) : (lineO m C off).length ≤ off.length + 512 := by
  unfold lineO; split
  · exact upO_len o
  · omega
theorem wrap_ok (o : OkS m) : OkS (wrapM m) := by
  have l := line_ok o
  have d := line_dim (m := m)
  have := o.w
  unfold wrapM
  exact ⟨l.w, l.g, ⟨by simp only; omega, by simp only; omega⟩, l.y, l.t, fun h => by simp only at h; rw [d.2.2.2.2.1] at h; cases h⟩
theorem step_ok {r : Int} (ow : 1 ≤ m.w ∧ m.w ≤ 512) (og : 1 ≤ m.g ∧ m.g ≤ 512) (oy : 0 ≤ m.y ∧ m.y < m.g) (ot : 0 ≤ m.top ∧ m.top ≤ m.bot ∧ m.bot < m.g) (ox : 0 ≤ m.x ∧ m.x + wt r ≤ m.w) (hr : wt r = 1 ∨ wt r = 2) : OkS (stepM m r) := by
  unfold stepM
  split
  · rename_i he
    exact ⟨ow, og, ⟨by simp only; omega, by simp only; omega⟩, oy, ot, fun _ => by simp only; omega⟩
  · exact ⟨ow, og, ⟨by simp only; omega, by simp only; omega⟩, oy, ot, fun h => (nomatch h)⟩
theorem step_dim {r : Int} : (stepM m r).w = m.w ∧ (stepM m r).g = m.g ∧ (stepM m r).top = m.top ∧ (stepM m r).bot = m.bot := by
  unfold stepM; split <;> exact ⟨rfl, rfl, rfl, rfl⟩
theorem put_j2 {r : Int} (hG : G h0) (z : HW.Sep h0 (Scr k m C off :: F) h) (ow : 1 ≤ m.w ∧ m.w ≤ 512) (og : 1 ≤ m.g ∧ m.g ≤ 512) (oy : 0 ≤ m.y ∧ m.y < m.g) (ot : 0 ≤ m.top ∧ m.top ≤ m.bot ∧ m.bot < m.g) (ox : 0 ≤ m.x ∧ m.x + wt r ≤ m.w) (hr : wt r = 1 ∨ wt r = 2) (hI : I32 r) (H : ∀ m' C' h', OkS m' → RowTo C C' m.w m.y → (m'.w = m.w ∧ m'.g = m.g ∧ m'.top = m.top ∧ m'.bot = m.bot) → HW.Sep h0 (Scr k m' C' off :: F) h' → R unit h') : screen_Screen_Put_j2 R (ptr k 0) (.int .i32 r) (.int .i64 (wt r)) (ptr k 3) h := by
  unfold screen_Screen_Put_j2
  rw [ev_nil, ev_off, Nat.zero_add, (rd z).r18, ev_if]
  split
  · refine Cells_spec0 hG z ow og (by omega) oy (fun D h1 rt s1 => ?_)
    refine put_j3 hG s1 ow og oy ox hr (fun h2 s2 => ?_)
    refine H _ _ h2 (step_ok (m := { m with late := false }) ow og oy ot ox hr) (rt.trans (put_row (m := { m with late := false }) oy ox hr hI (fun x y hn => Sout s1 hn))) (step_dim (m := { m with late := false })) s2
  · refine put_j3 hG z ow og oy ox hr (fun h2 s2 => ?_)
    exact H _ _ h2 (step_ok ow og oy ot ox hr) (put_row oy ox hr hI (fun x y hn => Sout z hn)) step_dim s2
theorem put_j1 {r : Int} (hG : G h0) (z : HW.Sep h0 (Scr k m C off :: F) h) (o : OkS m) (hb : off.length ≤ 1000000) (hr : wt r = 1 ∨ wt r = 2) (hw : wt r ≤ m.w) (hI : I32 r) (H : ∀ m' C' off' h', OkS m' → (wholeC C m.w m.g → wholeC C' m.w m.g) → (IC C → IC C') → off'.length ≤ off.length + 512 → (m'.w = m.w ∧ m'.g = m.g ∧ m'.top = m.top ∧ m'.bot = m.bot) → HW.Sep h0 (Scr k m' C' off' :: F) h' → R unit h') : screen_Screen_Put_j1 R (ptr k 0) (.int .i32 r) (.int .i64 (wt r)) (ptr k 3) h := by
  unfold screen_Screen_Put_j1
  have ow := o.w
  have ox := o.x
  simp (disch := omega) only [ev_nil, ev_off, Nat.zero_add, Nat.add_zero, Nat.reduceAdd, (rd z).r3, (rd z).r1, (rd z).r17, ev_add, wrap_i64, ev_gt, ev_and_p]
  rw [ev_if]
  split
  · refine wrapped_spec z o hb (fun h1 s1 => ?_)
    have o1 := wrap_ok o
    have d : (wrapM m).w = m.w ∧ (wrapM m).g = m.g ∧ (wrapM m).top = m.top ∧ (wrapM m).bot = m.bot := ⟨line_dim.1, line_dim.2.1, line_dim.2.2.1, line_dim.2.2.2.1⟩
    refine put_j2 hG s1 o1.w o1.g o1.y o1.t ⟨Int.le_refl 0, by rw [d.1]; show 0 + wt r ≤ m.w; omega⟩ hr hI (fun m' C' h2 o2 rt e s2 => ?_)
    rw [d.1, d.2.1, d.2.2.1, d.2.2.2] at e
    exact H m' C' _ h2 o2 (fun wc => by rw [d.1] at rt; exact rt.all (lineC_whole o wc)) (fun ic => rt.rng (IC_lineC ic)) (lineO_len o) e s2
  · rw [ev_if]
    rename_i hc
    simp only [Bool.and_eq_true, decide_eq_true_eq] at hc
    split
    · rename_i hc2
      simp only [decide_eq_true_eq] at hc2
      simp (disch := omega) only [ev_sub, wrap_i64]
      refine st3 z (fun h1 s1 => ?_)
      exact put_j2 hG s1 o.w o.g o.y o.t ⟨by simp only; omega, by simp only; omega⟩ hr hI (fun m' C' h2 o2 rt e s2 => H m' C' off h2 o2 (fun wc => rt.all wc) rt.rng (by omega) e s2)
    · rename_i hc2
      simp only [decide_eq_true_eq] at hc2
      exact put_j2 hG z o.w o.g o.y o.t ⟨by omega, by omega⟩ hr hI (fun m' C' h2 o2 rt e s2 => H m' C' off h2 o2 (fun wc => rt.all wc) rt.rng (by omega) e s2)
theorem Kp.refl (o : OkS m) : Kp m C off m C off := ⟨o, id, by omega, rfl, rfl, rfl, rfl, id⟩
theorem Put_k {r : Int} (hI : I32 r) (hG : G h0) (z : HW.Sep h0 (Scr k m C off :: F) h) (o : OkS m) (hb : off.length ≤ 900000) (H : ∀ m' C' off' h', Kp m C off m' C' off' → HW.Sep h0 (Scr k m' C' off' :: F) h' → R unit h') : screen_Screen_Put_c (ptr k 0) (.int .i32 r) h R := by
  apply screen_Screen_Put_runs
  unfold screen_Screen_Put_S
  refine width_spec (hG.ext z.ext) (fun h1 e1 => ?_)
  have s1 := z.ext' e1
  have ow := o.w
  refine cur_spec ?_
  simp only [ev_nil, ev_off, Nat.zero_add, Nat.add_zero, Nat.reduceAdd, (rd s1).r1, (rd s1).r5, (rd s1).r17, ev_lt, ev_gt, ev_or_p, ev_and_p]
  have wr := wt_rng r
  rw [ev_if]
  split
  · exact H m C off h1 (Kp.refl o) s1
  · rename_i hc
    simp only [Bool.or_eq_true, decide_eq_true_eq] at hc
    have hr : wt r = 1 ∨ wt r = 2 := by omega
    rw [ev_if]
    split
    · refine wrapped_spec s1 o (by omega) (fun h2 s2 => ?_)
      have d : (wrapM m).w = m.w ∧ (wrapM m).g = m.g ∧ (wrapM m).top = m.top ∧ (wrapM m).bot = m.bot := ⟨line_dim.1, line_dim.2.1, line_dim.2.2.1, line_dim.2.2.2.1⟩
      have hl := lineO_len (C := C) (off := off) o
      refine put_j1 hG s2 (wrap_ok o) (by omega) hr (by rw [d.1]; omega) hI (fun m' C' off' h3 o' wh hic hof e s3 => H m' C' off' h3 ⟨o', fun wc => ?_, by omega, by rw [e.1, d.1], by rw [e.2.1, d.2.1], by rw [e.2.2.1, d.2.2.1], by rw [e.2.2.2, d.2.2.2], fun ic => hic (IC_lineC ic)⟩ s3)
      rw [d.1, d.2.1] at wh
      exact wh (lineC_whole o wc)
    · exact put_j1 hG s1 o (by omega) hr (by omega) hI (fun m' C' off' h3 o' wh hic hof e s3 => H m' C' off' h3 ⟨o', wh, by omega, e.1, e.2.1, e.2.2.1, e.2.2.2, hic⟩ s3)
end
end Go.Proofs.YtmhhjpfkipficaaDoor


end

section
/- Grids: cells copied to another grid. -/
set_option linter.unusedSimpArgs false
set_option linter.unusedVariables false
namespace Go.Proofs.YtmhhjpfkipficaaDoor
open Go Go.HW

section
variable {h0 h : Heap} {F : List HP} {R : Value → Heap → Prop}
/-- A copy into another grid. -/
theorem j2_spec2 {kg kt k7 k11 k12 : Nat} {w g x y w' g' : Int} {v v' : Value} {l l' : List Ce} {r fr it : Rc} (z : szOk w g l) (z' : szOk w' g' l') (wx : -1073741824 ≤ x ∧ x ≤ 1073741824) (wy : -1073741824 ≤ y ∧ y ≤ 1073741824) (hr : r.Ok) (hfr : fr = frR r w g x y) (hit : it = itR r w g x y w' g')
    (s : HW.Sep h0 (Blk k12 it.c 83 :: Blk k11 fr.c 83 :: Blk k7 r.c 83 :: Blk kg (grd w g v) 89 :: Sl encCe 4 v l :: Blk kt (grd w' g' v') 89 :: Sl encCe 4 v' l' :: F) h)
    (H0 : (fr.empty || it.empty) = true → ∀ h', HW.Sep h0 (Blk kg (grd w g v) 89 :: Sl encCe 4 v l :: Blk kt (grd w' g' v') 89 :: Sl encCe 4 v' l' :: F) h' → R (.int .i64 0) h')
    (H1 : (fr.empty || it.empty) = false → ∀ h', HW.Sep h0 (Blk kg (grd w g v) 89 :: Sl encCe 4 v l :: Blk kt (grd w' g' v') 89 :: Sl encCe 4 v' (putRows l' w' it.x it.y (srow l w (it.x - x + r.x) (it.y - y + r.y) it.w) it.h.toNat) :: F) h' → R (.int .i64 (it.w * it.h)) h') :
    grid_Grid_Blit_j2 R (ptr kg 0) (ptr kt 0) (.int .i64 x) (.int .i64 y) (ptr k7 0) (ptr k11 0) (ptr k12 0) h := by
  unfold grid_Grid_Blit_j2
  rw [s.b1.ldall (n := 4) rfl]
  refine rempty_spec (r := fr) (fun h1 e1 => ?_)
  have s1 := s.ext' e1
  refine or_ext (y := it.empty) (fun _ K' HK => by
    rw [s1.ldall (n := 4) rfl]
    exact rempty_spec (r := it) (fun h2 e2 => HK _ e2)) (fun h2 e2 => ?_)
  have s2 := s1.ext' e2
  rw [ev_if]
  cases he : (fr.empty || it.empty) with
  | true => rw [if_pos rfl]; exact H0 he h2 (s2.tail2.tail)
  | false =>
    rw [if_neg (by decide)]
    have hie : it.empty = false := (Bool.or_eq_false_iff.1 he).2
    rw [hit] at hie
    obtain ⟨g1, g2, g3, g4, g5, g6⟩ := geo hie
    rw [← hit] at g1 g2 g3 g4 g5 g6
    have zz := z
    obtain ⟨z1, z2, z3, z4, z5⟩ := zz
    have zz' := z'
    obtain ⟨y1, y2, y3, y4, y5⟩ := zz'
    have f3 : ∀ {K : Value → Prop}, sLd h2 (ptr k12 3) K = K (.int .i64 it.h) := s2.ld rfl
    rw [ev_off, Nat.zero_add, f3]
    have har : it.area = it.w * it.h := by
      unfold Rc.area
      have : it.right = true := (Rc.right_iff it).2 (by unfold Rc.Ok; omega)
      rw [this]
      have : it.empty = false := by rw [hit]; exact hie
      rw [this]; rfl
    refine l3_spec (x1 := ptr kt 0) z wx wy hr ⟨by omega, by omega⟩ g1 g2 g5 g6 (s2.drop1.b1) (fun xv rs h3 hl hrs s3 => ?_)
    refine l4_spec z' g3 g4 g5 g6 har hl hrs (fun k hk => srow_len z g1 g5 (by omega)) s3.b5.b6.p4.p3 (fun h4 s4 => H1 he h4 s4.b2.b3.b1)
theorem j1_spec2 {kg kt k7 k11 : Nat} {w g x y w' g' : Int} {v v' : Value} {l l' : List Ce} {r : Rc} (z : szOk w g l) (z' : szOk w' g' l') (wx : -1073741824 ≤ x ∧ x ≤ 1073741824) (wy : -1073741824 ≤ y ∧ y ≤ 1073741824) (hr : r.Ok)
    (s : HW.Sep h0 (Blk k11 (r.both (allR w g)).c 83 :: Blk k7 r.c 83 :: Blk kg (grd w g v) 89 :: Sl encCe 4 v l :: Blk kt (grd w' g' v') 89 :: Sl encCe 4 v' l' :: F) h)
    (H0 : ((frR r w g x y).empty || (itR r w g x y w' g').empty) = true → ∀ h', HW.Sep h0 (Blk kg (grd w g v) 89 :: Sl encCe 4 v l :: Blk kt (grd w' g' v') 89 :: Sl encCe 4 v' l' :: F) h' → R (.int .i64 0) h')
    (H1 : ((frR r w g x y).empty || (itR r w g x y w' g').empty) = false → ∀ h', HW.Sep h0 (Blk kg (grd w g v) 89 :: Sl encCe 4 v l :: Blk kt (grd w' g' v') 89 :: Sl encCe 4 v' (putRows l' w' (itR r w g x y w' g').x (itR r w g x y w' g').y (srow l w ((itR r w g x y w' g').x - x + r.x) ((itR r w g x y w' g').y - y + r.y) (itR r w g x y w' g').w) (itR r w g x y w' g').h.toNat) :: F) h' → R (.int .i64 ((itR r w g x y w' g').w * (itR r w g x y w' g').h)) h') :
    grid_Grid_Blit_j1 R (ptr kg 0) (ptr kt 0) (.int .i64 x) (.int .i64 y) (ptr k7 0) (ptr k11 0) h := by
  unfold grid_Grid_Blit_j1
  have zz := z
  obtain ⟨z1, z2, z3, z4', z5⟩ := zz
  have rg := both_rng (a := r) (w := w) (g := g) ⟨z1, z2⟩ ⟨z3, z4'⟩
  obtain ⟨r1, r2, r3, r4⟩ := hr
  have b7 : h.has k7 r.c 83 := s.b1.has
  refine ⟨fun h' => h'.has k7 r.c 83, b7, ?_⟩
  have f0 : ∀ {K : Value → Prop}, sLd h (ptr k11 0) K = K (.int .i64 (r.both (allR w g)).x) := s.ld rfl
  have f1 : ∀ {K : Value → Prop}, sLd h (ptr k11 1) K = K (.int .i64 (r.both (allR w g)).y) := s.ld rfl
  have g0 : ∀ {K : Value → Prop}, sLd h (ptr k7 0) K = K (.int .i64 r.x) := ev_ld_has b7 rfl
  have g1 : ∀ {K : Value → Prop}, sLd h (ptr k7 1) K = K (.int .i64 r.y) := ev_ld_has b7 rfl
  have c7 : ∀ {o : Nat} {u : Value} {K : Value → Prop}, r.c[o]? = some u → sLdC (fun h' => h'.has k7 r.c 83) (ptr k7 o) K = K u := fun hv => ldc_at (C := fun h' => h'.has k7 r.c 83) (h0 := h) b7 (fun h' e => by rw [e.at, hv])
  have c1 := @c7 1 (.int .i64 r.y) 
  simp only [ev_off, Nat.zero_add, f0, f1, g0, g1, c1 rfl, ev_add, ev_sub]
  rw [wrap_i64 (x := (r.both (allR w g)).x + x) (by omega) (by omega), wrap_i64 (x := (r.both (allR w g)).x + x - r.x) (by omega) (by omega), wrap_i64 (x := (r.both (allR w g)).y + y) (by omega) (by omega), wrap_i64 (x := (r.both (allR w g)).y + y - r.y) (by omega) (by omega)]
  refine s.st (Nat.le_of_ble_eq_true rfl) trivial (fun h1 s1 => ⟨s1.b1.has, ?_⟩)
  refine s1.st (Nat.le_of_ble_eq_true rfl) trivial (fun h2 s2 => ?_)
  have s2 : HW.Sep h0 (Blk k11 (frR r w g x y).c 83 :: Blk k7 r.c 83 :: Blk kg (grd w g v) 89 :: Sl encCe 4 v l :: Blk kt (grd w' g' v') 89 :: Sl encCe 4 v' l' :: F) h2 := s2
  refine ⟨fun h' => h'.has k11 (frR r w g x y).c 83, s2.has, ?_⟩
  have cA : ∀ {K : Value → Prop}, sLdNC (fun h' => h'.has k11 (frR r w g x y).c 83) (ptr k11 0) 4 K = K (frR r w g x y).v := fun {K} => ldnc_all (C := fun h' => h'.has k11 (frR r w g x y).c 83) (h0 := h2) s2.has rfl (fun _ e => e)
  rw [cA]
  exact three (a := frR r w g x y) (fun h' e => e.has s2.has) s2 ⟨_, s2.b4⟩ (fun n h' s' => j2_spec2 z z' wx wy ⟨r1, r2, r3, r4⟩ rfl rfl s' H0 H1)
theorem blit2_spec {kg kt : Nat} {w g x y w' g' : Int} {v v' : Value} {l l' : List Ce} {r : Rc} (z : szOk w g l) (z' : szOk w' g' l')
    (s : HW.Sep h0 (Blk kg (grd w g v) 89 :: Sl encCe 4 v l :: Blk kt (grd w' g' v') 89 :: Sl encCe 4 v' l' :: F) h)
    (H0 : (!(r.right && nearB x && nearB y) || ((frR r w g x y).empty || (itR r w g x y w' g').empty)) = true → ∀ h', HW.Sep h0 (Blk kg (grd w g v) 89 :: Sl encCe 4 v l :: Blk kt (grd w' g' v') 89 :: Sl encCe 4 v' l' :: F) h' → R (.int .i64 0) h')
    (H1 : (!(r.right && nearB x && nearB y) || ((frR r w g x y).empty || (itR r w g x y w' g').empty)) = false → ∀ h', HW.Sep h0 (Blk kg (grd w g v) 89 :: Sl encCe 4 v l :: Blk kt (grd w' g' v') 89 :: Sl encCe 4 v' (putRows l' w' (itR r w g x y w' g').x (itR r w g x y w' g').y (srow l w ((itR r w g x y w' g').x - x + r.x) ((itR r w g x y w' g').y - y + r.y) (itR r w g x y w' g').w) (itR r w g x y w' g').h.toNat) :: F) h' → R (.int .i64 ((itR r w g x y w' g').w * (itR r w g x y w' g').h)) h') :
    grid_Grid_Blit_c (ptr kg 0) (ptr kt 0) r.v (.int .i64 x) (.int .i64 y) h R := by
  apply grid_Grid_Blit_runs
  unfold grid_Grid_Blit_S
  refine s.box (c := r.c) r.cells (fun k7 h1 s1 => ?_)
  have e0 : ∀ {K : Value → Prop}, sEqlNil (ptr kt 0) K = K (.bool false) := by intro K; simp only [ptr, ev_eqlNil, Option.isNone_some]
  rw [e0]
  refine or_ext (y := !r.right) (fun _ K' HK => by
    rw [s1.ldall (n := 4) rfl]
    exact rright_spec (r := r) (fun h2 e2 => by rw [ev_not]; exact HK _ e2)) (fun h2 e2 => ?_)
  refine or_ext (y := !nearB x) (fun _ K' HK => gnear_spec (by rw [ev_not]; exact HK _ (Ext.refl _))) (fun h3 e3 => ?_)
  refine or_ext (y := !nearB y) (fun _ K' HK => gnear_spec (by rw [ev_not]; exact HK _ (Ext.refl _))) (fun h4 e4 => ?_)
  have s4 := ((s1.ext' e2).ext' e3).ext' e4
  rw [ev_if]
  have ec : (false || !r.right || !nearB x || !nearB y) = !(r.right && nearB x && nearB y) := by cases r.right <;> cases nearB x <;> cases nearB y <;> rfl
  rw [ec]
  cases hc : (r.right && nearB x && nearB y) with
  | false =>
    rw [if_pos (by decide)]
    exact H0 (by rw [hc]; rfl) h4 s4.tail
  | true =>
    rw [if_neg (by decide)]
    rw [hc] at H0 H1
    simp only [Bool.not_true, Bool.false_or] at H0 H1
    simp only [Bool.and_eq_true] at hc
    obtain ⟨⟨c1, c2⟩, c3⟩ := hc
    have wx : -1073741824 ≤ x ∧ x ≤ 1073741824 := by simpa [nearB] using c2
    have wy : -1073741824 ≤ y ∧ y ≤ 1073741824 := by simpa [nearB] using c3
    refine ⟨fun h' => h'.has k7 r.c 83, s4.has, ?_⟩
    have cA : ∀ {K : Value → Prop}, sLdNC (fun h' => h'.has k7 r.c 83) (ptr k7 0) 4 K = K r.v := fun {K} => ldnc_all (C := fun h' => h'.has k7 r.c 83) (h0 := h4) s4.has rfl (fun _ e => e)
    rw [cA]
    exact three (a := r) (fun h' e => e.has s4.has) s4 ⟨_, s4.b1⟩ (fun n h' s' => j1_spec2 z z' wx wy ((Rc.right_iff r).1 c1) s' H0 H1)
end
end Go.Proofs.YtmhhjpfkipficaaDoor


end

section
/- The shallow reading of one function, and that the function does it. Written by a program. -/
set_option linter.unusedVariables false
namespace Go.Proofs.YtmhhjpfkipficaaDoor
open Go Go.HW _root_.Go.Proofs.Tryd

def grid_Grid_Resize_j1 (R : Value → Heap → Prop) (x10 : Value) (h_1 : Heap) : Prop :=
  R x10 h_1
def grid_Grid_Resize_S (x0 x1 x2 : Value) (h : Heap) (R : Value → Heap → Prop) : Prop :=
  grid_New_c x1 x2 h fun x10 h => 
  sNeqNil x10 fun x12 =>
  sIf x12 (grid_Grid_all_c x0 h fun x16 h_2 => 
  grid_Grid_Blit_c x0 x10 x16 (.int .i64 0) (.int .i64 0) h_2 fun x17 h_3 => 
  grid_Grid_Resize_j1 R x10 h_3) (grid_Grid_Resize_j1 R x10 h)
set_option maxRecDepth 100000 in
theorem grid_Grid_Resize_runs {x0 x1 x2 : Value} {h : Heap} {R : Value → Heap → Prop} (H : grid_Grid_Resize_S x0 x1 x2 h R) : grid_Grid_Resize_c x0 x1 x2 h R := by
 unfold grid_Grid_Resize_S at H
 refine runsof (b := (mk (Ap [x0,x1,x2] 16))) call87 func87 rfl fun w0 HA => wp_seq (lwp_list ?_)
 refine lsassign (.pointer none) <| ls_nil (then_normal ?_)
 refine freq (mk (Ap [x0,x1,x2,ud,ud,ud,(.pointer none)] 12)) <| wp_seq (lwp_list ?_)
 refine lsmove x1 <| lsmove x2 <| lsd 10 HA (dcall H) fun x10 h w H HA => lsassign x10 <| ls_nil (then_normal ?_)
 refine freq (mk (Ap [x0,x1,x2,ud,ud,ud,(.pointer none),x10,x1,x2,x10] 8)) <| wp_seq <| wp_seq (lwp_list ?_)
 refine lsmove x10 <| lsp 12 (p_neqNil underlying54 (by kernel_rfl) (by kernel_rfl) H) fun x12 H => ls_nil (then_normal ?_)
 refine freq (mk (Ap [x0,x1,x2,ud,ud,ud,(.pointer none),x10,x1,x2,x10,x10,x12] 6)) <| wp_join (fun a w => ∃ (D : Nat → Value) (h_1 : Heap),a = (mk ([x0,x1,x2,ud,ud,ud,(.pointer none),x10,x1,x2,x10,x10,x12] ++ (Ad D 0 5 [ud]))) ∧ At w0 w h_1 ∧ grid_Grid_Resize_j1 R x10 h_1) ?_ ?_
 ·refine wp_if rfl H (fun H => ?_) (fun H => ?_)
  ·refine lwp_list <| lsmove x0 <| lsmove x10 <| lsmove x0 <| lsd 16 HA (dcall H) fun x16 h_2 w_2 H HA_2 => lsd 17 HA_2 (dcall H) fun x17 h_3 w_3 H HA_3 => ls_nil <| ⟨(gd ([x0,x10,x0,x16,x17])),h_3,by kernel_rfl,HA_3,H⟩
  ·refine wp_skip <| ⟨(gd (Ap [] 5)),h,by kernel_rfl,HA,H⟩
 ·rintro _ w_1 ⟨D,h_1,rfl,HA_1,H⟩
  unfold grid_Grid_Resize_j1 at H
  refine then_normal <| freq (mk ([x0,x1,x2,ud,ud,ud,(.pointer none),x10,x1,x2,x10,x10,x12] ++ (Ad D 0 5 [ud]))) <| wp_seq (lwp_list ?_)
  refine lsmove x10 <| lsassign x10 <| ls_nil (then_normal ?_)
  refine freq (mk ([x0,x1,x2,ud,ud,ud,x10,x10,x1,x2,x10,x10,x12] ++ (Ad D 0 5 [x10]))) <| wp_ret <| end1 (results87) (by kernel_rfl) (by kernel_rfl) HA_1 H _ (.inr rfl)

end Go.Proofs.YtmhhjpfkipficaaDoor


end

section
/- The shallow reading of one function, and that the function does it. Written by a program. -/
set_option linter.unusedVariables false
namespace Go.Proofs.YtmhhjpfkipficaaDoor
open Go Go.HW _root_.Go.Proofs.Tryd

def screen_Screen_Resize_l2 (R : Value → Heap → Prop) (x0 x2 : Value) (next : Value → Heap → Prop) (x82 : Value) (h_13 : Heap) : Prop :=
  sLt x82 x2 fun x83 =>
  sIf x83 (screen_Screen_mend_c x0 x82 h_13 fun x87 h_14 => 
  sAdd .i64 x82 (.int .i64 1) fun x88 =>
  next x88 h_14) (R (.bool true) h_13)
def screen_Screen_Resize_l1 (R : Value → Heap → Prop) (x0 x1 x2 x17 : Value) (next : Value → Heap → Prop) (x8 : Value) (h_1 : Heap) : Prop :=
  sLt x8 x1 fun x26 =>
  sIf x26 (screen_isStop_c x8 h_1 fun x32 h_2 => 
  sNil x0 fun x33 =>
  sOff x33 21 fun x34 =>
  sIxA x34 x8 512 1 fun x35 =>
  sSt h_2 x35 x32 fun h_3 => 
  sAdd .i64 x8 (.int .i64 1) fun x28 =>
  next x28 h_3) (sSub .i64 x2 (.int .i64 1) fun x45 =>
  sNil x0 fun x46 =>
  sOff x46 0 fun x47 =>
  sSt h_1 x47 x17 fun h_4 => 
  sNil x0 fun x48 =>
  sOff x48 1 fun x49 =>
  sSt h_4 x49 x1 fun h_5 => 
  sNil x0 fun x50 =>
  sOff x50 2 fun x51 =>
  sSt h_5 x51 x2 fun h_6 => 
  sNil x0 fun x52 =>
  sOff x52 19 fun x53 =>
  sSt h_6 x53 (.int .i64 0) fun h_7 => 
  sNil x0 fun x54 =>
  sOff x54 20 fun x55 =>
  sSt h_7 x55 x45 fun h_8 => 
  screen_Screen_cur_c x0 h_8 fun x57 h_9 => 
  sNil x57 fun x62 =>
  sOff x62 0 fun x63 =>
  sLd h_9 x63 fun x64 =>
  sSub .i64 x1 (.int .i64 1) fun x66 =>
  sMin x64 x66 fun x67 =>
  sNil x57 fun x69 =>
  sOff x69 1 fun x70 =>
  sLd h_9 x70 fun x71 =>
  sSub .i64 x2 (.int .i64 1) fun x73 =>
  sMin x71 x73 fun x74 =>
  sNil x57 fun x75 =>
  sOff x75 0 fun x76 =>
  sSt h_9 x76 x67 fun h_10 => 
  sNil x57 fun x77 =>
  sOff x77 1 fun x78 =>
  sSt h_10 x78 x74 fun h_11 => 
  sNil x57 fun x79 =>
  sOff x79 2 fun x80 =>
  sSt h_11 x80 (.bool false) fun h_12 => 
  sLoop (S := Value) (fun nxt s h => screen_Screen_Resize_l2 R x0 x2 (fun x82' h => nxt x82' h) s h) (.int .i64 0) h_12)
def screen_Screen_Resize_S (x0 x1 x2 : Value) (h : Heap) (R : Value → Heap → Prop) : Prop :=
  sNil x0 fun x12 =>
  sOff x12 0 fun x13 =>
  sLd h x13 fun x14 =>
  grid_Grid_Resize_c x14 x1 x2 h fun x17 h => 
  sEqlNil x17 fun x19 =>
  sIf x19 (R (.bool false) h) (sNil x0 fun x21 =>
  sOff x21 1 fun x22 =>
  sLd h x22 fun x23 =>
  sLoop (S := Value) (fun nxt s h => screen_Screen_Resize_l1 R x0 x1 x2 x17 (fun x8' h => nxt x8' h) s h) x23 h)
set_option maxRecDepth 100000 in
theorem screen_Screen_Resize_runs {x0 x1 x2 : Value} {h : Heap} {R : Value → Heap → Prop} (H : screen_Screen_Resize_S x0 x1 x2 h R) : screen_Screen_Resize_c x0 x1 x2 h R := by
 unfold screen_Screen_Resize_S at H
 refine runsof (b := (mk (Ap [x0,x1,x2] 86))) call65 func65 rfl fun w0 HA => wp_seq (lwp_list ?_)
 refine lsassign (.bool false) <| ls_nil (then_normal ?_)
 refine freq (mk (Ap [x0,x1,x2,ud,ud,ud,(.bool false)] 82)) <| wp_seq (lwp_list ?_)
 refine lsmove x0 <| lsp 12 (pnil H) fun x12 H => lsp 13 (poff underlying64 rfl sizeOf54 rfl H) fun x13 H => lsy 14 HA (yld isAgg54 H) fun x14 H => lsmove x1 <| lsmove x2 <| lsd 17 HA (dcall H) fun x17 h w H HA => lsassign x17 <| ls_nil (then_normal ?_)
 refine freq (mk (Ap [x0,x1,x2,ud,ud,ud,(.bool false),x17,ud,ud,ud,x0,x12,x13,x14,x1,x2,x17] 71)) <| wp_seq <| wp_seq (lwp_list ?_)
 refine lsmove x17 <| lsp 19 (p_eqlNil underlying54 (by kernel_rfl) (by kernel_rfl) H) fun x19 H => ls_nil (then_normal ?_)
 refine freq (mk (Ap [x0,x1,x2,ud,ud,ud,(.bool false),x17,ud,ud,ud,x0,x12,x13,x14,x1,x2,x17,x17,x19] 69)) <| wp_if rfl H (fun H => ?_) (fun H => ?_)
 ·refine wp_seq (lwp_list ?_)
  refine lsassign (.bool false) <| ls_nil (then_normal ?_)
  refine freq (mk (Ap [x0,x1,x2,ud,ud,ud,(.bool false),x17,ud,ud,ud,x0,x12,x13,x14,x1,x2,x17,x17,x19] 69)) <| wp_ret <| then_ret <| end1 (results65) (by kernel_rfl) (by kernel_rfl) HA H _ (.inr rfl)
 ·refine wp_skip <| then_normal <| freq (mk (Ap [x0,x1,x2,ud,ud,ud,(.bool false),x17,ud,ud,ud,x0,x12,x13,x14,x1,x2,x17,x17,x19] 69)) <| wp_seq <| wp_seq (lwp_list ?_)
  refine lsmove x0 <| lsp 21 (pnil H) fun x21 H => lsp 22 (poff underlying64 rfl sizeOf3 rfl H) fun x22 H => lsy 23 HA (yld isAgg3 H) fun x23 H => lsassign x23 <| ls_nil (then_normal ?_)
  refine freq (mk (Ap [x0,x1,x2,ud,ud,ud,(.bool false),x17,x23,ud,ud,x0,x12,x13,x14,x1,x2,x17,x17,x19,x0,x21,x22,x23] 65)) <| wp_block ?_
  obtain ⟨I,m,H0,HB⟩ := H
  refine wp_loop (fun a w => ∃ (D : Nat → Value) (x8 : Value) (h_1 : Heap),a = (mk ([x0,x1,x2,ud,ud,ud,(.bool false),x17,x8,ud,ud,x0,x12,x13,x14,x1,x2,x17,x17,x19,x0,x21,x22,x23] ++ (Ad D 0 12 (Ap [] 53)))) ∧ At w0 w h_1 ∧ I x8 h_1) (fun a w => m (a.tmps.getD 8 ud) w.heap) ?_ ?_
  ·exact ⟨(gd (Ap [] 12)),x23,h,by kernel_rfl,HA,H0⟩
  ·rintro _ w_1 ⟨D,x8,h_1,rfl,HA_1,HI⟩
   have H : screen_Screen_Resize_l1 R x0 x1 x2 x17 (fun x8' h' => I x8' h' ∧ m x8' h' < m x8 h_1) x8 h_1 := HB x8 h_1 HI
   clear HB H0 HI
   unfold screen_Screen_Resize_l1 at H
   refine wp_seq <| wp_seq (lwp_list ?_)
   refine lsmove x8 <| lsmove x1 <| lsp 26 (psLt H) fun x26 H => ls_nil (then_normal ?_)
   refine freq (mk ([x0,x1,x2,ud,ud,ud,(.bool false),x17,x8,ud,ud,x0,x12,x13,x14,x1,x2,x17,x17,x19,x0,x21,x22,x23,x8,x1,x26] ++ (Ad D 3 9 (Ap [] 53)))) <| wp_if rfl H (fun H => ?_) (fun H => ?_)
   ·refine wp_skip <| then_normal <| freq (mk ([x0,x1,x2,ud,ud,ud,(.bool false),x17,x8,ud,ud,x0,x12,x13,x14,x1,x2,x17,x17,x19,x0,x21,x22,x23,x8,x1,x26] ++ (Ad D 3 9 (Ap [] 53)))) <| wp_seq <| wp_block <| lwpmx (Nat.testBit 136) (Nat.testBit 0) (Nat.testBit 119) [0,0,0,4,1,17,63,127] (Nat.testBit 0) (fun h' => h' = h_1) [0,1,2,3,4,5,6,7] HA_1 rfl fun w_2 HA_2 => lmal x0 29 rfl (almove) <| lmal x8 30 rfl (almove) <| lmal x8 31 rfl (almove) <| lmd 32 rfl HA_2 (dcall H) fun x32 h_2 w_3 H HA_3 => lmp 33 rfl (pnil H) fun x33 H => lmp 34 rfl (poff underlying64 rfl sizeOf62 rfl H) fun x34 H => lmp 35 rfl (pixa underlying62 sizeOf4 H) (fun x35 H => ?_)
    refine lmdn rfl HA_3 (dstw sizeOf4 H) fun _ h_3 w_4 H HA_4 => lm_nil <| block_normal <| then_normal <| freq (mk (Ap [x0,x1,x2,ud,ud,ud,(.bool false),x17,x8,ud,ud,x0,x12,x13,x14,x1,x2,x17,x17,x19,x0,x21,x22,x23,x8,x1,x26,(D 3),(D 4),x0,x8,x8,x32,x33,x34,x35] 53)) <| lwp_list <| lsmove x8 <| lsp 28 (padd H) fun x28 H => lsassign x28 <| ls_nil <| ⟨⟨(gd ([x8,x1,x26,x8,x28,x0,x8,x8,x32,x33,x34,x35])),x28,h_3,by kernel_rfl,HA_4,H.1⟩, loop_lt HA_4.heap HA_1.heap (by kernel_rfl) (by kernel_rfl) H.2⟩
   ·refine wp_exit <| then_exit <| then_exit <| block_exit <| then_normal <| freq (mk ([x0,x1,x2,ud,ud,ud,(.bool false),x17,x8,ud,ud,x0,x12,x13,x14,x1,x2,x17,x17,x19,x0,x21,x22,x23,x8,x1,x26] ++ (Ad D 3 9 (Ap [] 53)))) <| wp_seq (lwp_list ?_)
    refine lsmove x0 <| lsmove x0 <| lsmove x0 <| lsmove x0 <| lsmove x0 <| lsmove x17 <| lsmove x1 <| lsmove x2 <| lsmove x2 <| lsp 45 (psub H) fun x45 H => lsp 46 (pnil H) fun x46 H => lsp 47 (poff underlying64 rfl sizeOf54 rfl H) fun x47 H => lsdn HA_1 (dstw sizeOf54 H) fun _ h_4 w_5 H HA_5 => lsp 48 (pnil H) (fun x48 H => ?_)
    refine lsp 49 (poff underlying64 rfl sizeOf3 rfl H) fun x49 H => lsdn HA_5 (dstw sizeOf3 H) fun _ h_5 w_6 H HA_6 => lsp 50 (pnil H) fun x50 H => lsp 51 (poff underlying64 rfl sizeOf3 rfl H) fun x51 H => lsdn HA_6 (dstw sizeOf3 H) fun _ h_6 w_7 H HA_7 => lsp 52 (pnil H) fun x52 H => lsp 53 (poff underlying64 rfl sizeOf3 rfl H) fun x53 H => lsdn HA_7 (dstw sizeOf3 H) fun _ h_7 w_8 H HA_8 => lsp 54 (pnil H) fun x54 H => lsp 55 (poff underlying64 rfl sizeOf3 rfl H) fun x55 H => lsdn HA_8 (dstw sizeOf3 H) fun _ h_8 w_9 H HA_9 => ls_nil (then_normal ?_)
    refine freq (mk ([x0,x1,x2,ud,ud,ud,(.bool false),x17,x8,ud,ud,x0,x12,x13,x14,x1,x2,x17,x17,x19,x0,x21,x22,x23,x8,x1,x26] ++ (Ad D 3 9 (Ap [x0,x0,x0,x0,x0,x17,x1,x2,x2,x45,x46,x47,x48,x49,x50,x51,x52,x53,x54,x55] 33)))) <| wp_seq (lwp_list ?_)
    refine lsmove x0 <| lsd 57 HA_9 (dcall H) fun x57 h_9 w_10 H HA_10 => lsassign x57 <| ls_nil (then_normal ?_)
    refine freq (mk ([x0,x1,x2,ud,ud,ud,(.bool false),x17,x8,x57,ud,x0,x12,x13,x14,x1,x2,x17,x17,x19,x0,x21,x22,x23,x8,x1,x26] ++ (Ad D 3 9 (Ap [x0,x0,x0,x0,x0,x17,x1,x2,x2,x45,x46,x47,x48,x49,x50,x51,x52,x53,x54,x55,x0,x57] 31)))) <| wp_seq <| lwpmx (Nat.testBit 38273024) (Nat.testBit 0) (Nat.testBit 28827583) [0,0,0,0,8,24,56,0,128,504,0,1024,3072,7168,0,16384,64512,16377,147449,409593,1048571,2097147,4194299,8388607,16777215,33554431] (Nat.testBit 0) (fun h' => h' = h_9) [0,1,2,3,4,5,6,7,8,9,10,11,12,13,14,15,16,17,18,19,20,21,22,23,24,25] HA_10 rfl fun w_11 HA_11 => lmal x57 58 rfl (almove) <| lmal x57 59 rfl (almove) <| lmal x57 60 rfl (almove) <| lmal x57 61 rfl (almove) <| lmp 62 rfl (pnil H) fun x62 H => lmp 63 rfl (poff underlying38 rfl sizeOf3 rfl H) fun x63 H => lmf 64 rfl (of_eq (yld isAgg3 H)) fun x64 H => lmal x1 65 rfl (almove) <| lmp 66 rfl (psub H) fun x66 H => lmp 67 rfl (pmin H) (fun x67 H => ?_)
    refine lmal x57 68 rfl (almove) <| lmp 69 rfl (pnil H) fun x69 H => lmp 70 rfl (poff underlying38 rfl sizeOf3 rfl H) fun x70 H => lmf 71 rfl (of_eq (yld isAgg3 H)) fun x71 H => lmal x2 72 rfl (almove) <| lmp 73 rfl (psub H) fun x73 H => lmp 74 rfl (pmin H) fun x74 H => lmp 75 rfl (pnil H) fun x75 H => lmp 76 rfl (poff underlying38 rfl sizeOf3 rfl H) fun x76 H => lmdn rfl HA_11 (dstw sizeOf3 H) fun _ h_10 w_12 H HA_12 => lmp 77 rfl (pnil H) fun x77 H => lmp 78 rfl (poff underlying38 rfl sizeOf3 rfl H) fun x78 H => lmdn rfl HA_12 (dstw sizeOf3 H) fun _ h_11 w_13 H HA_13 => lmp 79 rfl (pnil H) (fun x79 H => ?_)
    refine lmp 80 rfl (poff underlying38 rfl sizeOf4 rfl H) fun x80 H => lmdn rfl HA_13 (dstw sizeOf4 H) fun _ h_12 w_14 H HA_14 => lm_nil <| then_normal <| freq (mk ([x0,x1,x2,ud,ud,ud,(.bool false),x17,x8,x57,ud,x0,x12,x13,x14,x1,x2,x17,x17,x19,x0,x21,x22,x23,x8,x1,x26] ++ (Ad D 3 9 (Ap [x0,x0,x0,x0,x0,x17,x1,x2,x2,x45,x46,x47,x48,x49,x50,x51,x52,x53,x54,x55,x0,x57,x57,x57,x57,x57,x62,x63,x64,x1,x66,x67,x57,x69,x70,x71,x2,x73,x74,x75,x76,x77,x78,x79,x80] 8)))) <| wp_seq <| wp_seq (lwp_list ?_)
    refine lsmove x2 <| lsmove (.int .i64 0) <| ls_nil (then_normal ?_)
    refine freq (mk ([x0,x1,x2,ud,ud,ud,(.bool false),x17,x8,x57,ud,x0,x12,x13,x14,x1,x2,x17,x17,x19,x0,x21,x22,x23,x8,x1,x26] ++ (Ad D 3 9 (Ap [x0,x0,x0,x0,x0,x17,x1,x2,x2,x45,x46,x47,x48,x49,x50,x51,x52,x53,x54,x55,x0,x57,x57,x57,x57,x57,x62,x63,x64,x1,x66,x67,x57,x69,x70,x71,x2,x73,x74,x75,x76,x77,x78,x79,x80,x2,(.int .i64 0)] 6)))) <| wp_block ?_
    obtain ⟨I_1,m_1,H0,HB⟩ := H
    refine wp_loop (fun a w => ∃ (D_1 : Nat → Value) (x82 : Value) (h_13 : Heap),a = (mk ([x0,x1,x2,ud,ud,ud,(.bool false),x17,x8,x57,(D_1 0),x0,x12,x13,x14,x1,x2,x17,x17,x19,x0,x21,x22,x23,x8,x1,x26] ++ (Ad D 3 9 ([x0,x0,x0,x0,x0,x17,x1,x2,x2,x45,x46,x47,x48,x49,x50,x51,x52,x53,x54,x55,x0,x57,x57,x57,x57,x57,x62,x63,x64,x1,x66,x67,x57,x69,x70,x71,x2,x73,x74,x75,x76,x77,x78,x79,x80,x2,x82] ++ (Ad D_1 1 6 []))))) ∧ At w0 w h_13 ∧ I_1 x82 h_13) (fun a w => m_1 (a.tmps.getD 82 ud) w.heap) ?_ ?_
    ·exact ⟨(gd (Ap [] 7)),(.int .i64 0),h_12,by kernel_rfl,HA_14,H0⟩
    ·rintro _ w_15 ⟨D_1,x82,h_13,rfl,HA_15,HI⟩
     have H : screen_Screen_Resize_l2 R x0 x2 (fun x82' h' => I_1 x82' h' ∧ m_1 x82' h' < m_1 x82 h_13) x82 h_13 := HB x82 h_13 HI
     clear HB H0 HI
     unfold screen_Screen_Resize_l2 at H
     refine wp_seq (lwp_list ?_)
     refine lsp 83 (psLt H) fun x83 H => ls_nil (then_normal ?_)
     refine freq (mk ([x0,x1,x2,ud,ud,ud,(.bool false),x17,x8,x57,(D_1 0),x0,x12,x13,x14,x1,x2,x17,x17,x19,x0,x21,x22,x23,x8,x1,x26] ++ (Ad D 3 9 ([x0,x0,x0,x0,x0,x17,x1,x2,x2,x45,x46,x47,x48,x49,x50,x51,x52,x53,x54,x55,x0,x57,x57,x57,x57,x57,x62,x63,x64,x1,x66,x67,x57,x69,x70,x71,x2,x73,x74,x75,x76,x77,x78,x79,x80,x2,x82,x83] ++ (Ad D_1 2 5 []))))) <| wp_seq <| wp_if rfl H (fun H => ?_) (fun H => ?_)
     ·refine wp_skip <| then_normal <| freq (mk ([x0,x1,x2,ud,ud,ud,(.bool false),x17,x8,x57,(D_1 0),x0,x12,x13,x14,x1,x2,x17,x17,x19,x0,x21,x22,x23,x8,x1,x26] ++ (Ad D 3 9 ([x0,x0,x0,x0,x0,x17,x1,x2,x2,x45,x46,x47,x48,x49,x50,x51,x52,x53,x54,x55,x0,x57,x57,x57,x57,x57,x62,x63,x64,x1,x66,x67,x57,x69,x70,x71,x2,x73,x74,x75,x76,x77,x78,x79,x80,x2,x82,x83] ++ (Ad D_1 2 5 []))))) <| wp_seq <| wp_block <| wp_seq (lwp_list ?_)
      refine lsmove x82 <| lsassign x82 <| ls_nil (then_normal ?_)
      refine freq (mk ([x0,x1,x2,ud,ud,ud,(.bool false),x17,x8,x57,x82,x0,x12,x13,x14,x1,x2,x17,x17,x19,x0,x21,x22,x23,x8,x1,x26] ++ (Ad D 3 9 (([x0,x0,x0,x0,x0,x17,x1,x2,x2,x45,x46,x47,x48,x49,x50,x51,x52,x53,x54,x55,x0,x57,x57,x57,x57,x57,x62,x63,x64,x1,x66,x67,x57,x69,x70,x71,x2,x73,x74,x75,x76,x77,x78,x79,x80,x2,x82,x83] ++ [x82]) ++ (Ad D_1 3 4 []))))) <| lwp_list <| lsmove x0 <| lsmove x82 <| lsd 87 HA_15 (dcall H) fun x87 h_14 w_16 H HA_16 => ls_nil <| block_normal <| then_normal <| freq (mk ([x0,x1,x2,ud,ud,ud,(.bool false),x17,x8,x57,x82,x0,x12,x13,x14,x1,x2,x17,x17,x19,x0,x21,x22,x23,x8,x1,x26] ++ (Ad D 3 9 ([x0,x0,x0,x0,x0,x17,x1,x2,x2,x45,x46,x47,x48,x49,x50,x51,x52,x53,x54,x55,x0,x57,x57,x57,x57,x57,x62,x63,x64,x1,x66,x67,x57,x69,x70,x71,x2,x73,x74,x75,x76,x77,x78,x79,x80,x2,x82,x83] ++ [x82,x0,x82,x87,(D_1 6)])))) <| lwp_list <| lsp 88 (padd H) fun x88 H => lsmove x88 <| ls_nil <| ⟨⟨(gd ([x82,x83,x82,x0,x82,x87,x88])),x88,h_14,by kernel_rfl,HA_16,H.1⟩, loop_lt HA_16.heap HA_15.heap (by kernel_rfl) (by kernel_rfl) H.2⟩
     ·refine wp_exit <| then_exit <| then_exit <| block_exit <| then_normal <| freq (mk ([x0,x1,x2,ud,ud,ud,(.bool false),x17,x8,x57,(D_1 0),x0,x12,x13,x14,x1,x2,x17,x17,x19,x0,x21,x22,x23,x8,x1,x26] ++ (Ad D 3 9 ([x0,x0,x0,x0,x0,x17,x1,x2,x2,x45,x46,x47,x48,x49,x50,x51,x52,x53,x54,x55,x0,x57,x57,x57,x57,x57,x62,x63,x64,x1,x66,x67,x57,x69,x70,x71,x2,x73,x74,x75,x76,x77,x78,x79,x80,x2,x82,x83] ++ (Ad D_1 2 5 []))))) <| wp_seq (lwp_list ?_)
      refine lsassign (.bool true) <| ls_nil (then_normal ?_)
      refine freq (mk ([x0,x1,x2,ud,ud,ud,(.bool true),x17,x8,x57,(D_1 0),x0,x12,x13,x14,x1,x2,x17,x17,x19,x0,x21,x22,x23,x8,x1,x26] ++ (Ad D 3 9 ([x0,x0,x0,x0,x0,x17,x1,x2,x2,x45,x46,x47,x48,x49,x50,x51,x52,x53,x54,x55,x0,x57,x57,x57,x57,x57,x62,x63,x64,x1,x66,x67,x57,x69,x70,x71,x2,x73,x74,x75,x76,x77,x78,x79,x80,x2,x82,x83] ++ (Ad D_1 2 5 []))))) <| wp_ret <| end1 (results65) (by kernel_rfl) (by kernel_rfl) HA_15 H _ (.inr rfl)

end Go.Proofs.YtmhhjpfkipficaaDoor


end

section
/- Screens: other sizes. -/
set_option linter.unusedSimpArgs false
set_option linter.unusedVariables false
set_option maxRecDepth 20000
namespace Go.Proofs.YtmhhjpfkipficaaDoor
open Go Go.HW

section
variable {h0 h : Heap} {F : List HP} {R : Value → Heap → Prop} {k kg : Nat} {m : Sc} {C : Cel} {off : List (List Ce)}
theorem mem_setAll {c : Ce} : ∀ (src l : List Ce) (p : Nat), c ∈ setAll l p src → c ∈ l ∨ c ∈ src
  | [], _, _, h => .inl h
  | s :: r, l, p, h => by
    rw [setAll] at h
    rcases mem_setAll r _ _ h with h | h
    · rcases List.mem_or_eq_of_mem_set h with h | rfl
      · exact .inl h
      · exact .inr (List.mem_cons_self ..)
    · exact .inr (List.mem_cons_of_mem _ h)
theorem mem_putRows {c : Ce} {l' : List Ce} {w x y : Int} {rows : Nat → List Ce} : ∀ n, c ∈ putRows l' w x y rows n → c ∈ l' ∨ ∃ k, c ∈ rows k
  | 0, h => .inl h
  | n + 1, h => by
    rw [putRows] at h
    rcases mem_setAll _ _ _ h with h | h
    · exact mem_putRows n h
    · exact .inr ⟨n, h⟩
theorem mem_srow {c : Ce} {l : List Ce} {w x y n : Int} {k : Nat} (h : c ∈ srow l w x y n k) : c ∈ l :=
  List.mem_of_mem_take (List.mem_of_mem_drop (List.mem_of_mem_take (List.mem_of_mem_drop h)))
theorem IC_cell {l : List Ce} {w g : Int} (h : ∀ c ∈ l, I32 c.r) : IC (cell l w g) := fun a b => by
  unfold cell
  split
  · rw [List.getD_eq_getElem?_getD]
    cases e : l[(b * w + a).toNat]? with
    | none => exact i32_0
    | some c => exact h c (List.mem_of_getElem? e)
  · exact i32_0
theorem IC_list {l : List Ce} {w g : Int} (z : szOk w g l) (i : IC (cell l w g)) : ∀ c ∈ l, I32 c.r := fun c hc => by
  obtain ⟨z1, z2, z3, z4, z5⟩ := z
  obtain ⟨n, hn, e⟩ := List.getElem_of_mem hc
  have h1 := Int.emod_add_mul_ediv (n : Int) w
  have h2 := Int.emod_nonneg (n : Int) (show w ≠ 0 by omega)
  have h3 := Int.emod_lt_of_pos (n : Int) (show 0 < w by omega)
  have h4 : 0 ≤ (n : Int) / w := Int.ediv_nonneg (by omega) (by omega)
  have h5 : (n : Int) / w < g := Int.ediv_lt_of_lt_mul (by omega) (by rw [Int.mul_comm g w]; omega)
  have := i ((n : Int) % w) ((n : Int) / w)
  unfold cell at this
  rw [if_pos (inG_t ⟨h2, h3⟩ ⟨h4, h5⟩), show ((n : Int) / w * w + (n : Int) % w).toNat = n by rw [Int.mul_comm]; omega, List.getD_eq_getElem?_getD, List.getElem?_eq_getElem hn, e] at this
  exact this
theorem gresize_spec {w g a b : Int} (hw : i64 a) (hg : i64 b) (s : HW.Sep h0 (Gc kg w g C :: F) h) (H0 : ¬(1 ≤ a ∧ a ≤ 512 ∧ 1 ≤ b ∧ b ≤ 512) → R (.pointer none) h) (H1 : (1 ≤ a ∧ a ≤ 512 ∧ 1 ≤ b ∧ b ≤ 512) → ∀ kn D h', (IC C → IC D) → HW.Sep h0 (Gc kn a b D :: Gc kg w g C :: F) h' → R (ptr kn 0) h') : grid_Grid_Resize_c (ptr kg 0) (.int .i64 a) (.int .i64 b) h R := by
  apply grid_Grid_Resize_runs
  unfold grid_Grid_Resize_S
  refine new_spec hw hg (fun hc => ?_) (fun hc kn vn h1 z' s1 => ?_)
  · simp only [ev_neqNil, Option.isNone_none, Bool.not_true, ev_if, Bool.false_eq_true, if_false]
    exact H0 hc
  obtain ⟨v, l, z, e, s⟩ := Gopen s
  have s1 := s.add s1
  have s1 : HW.Sep h0 (Blk kn (grd a b vn) 89 :: Sl encCe 4 vn (List.replicate (a * b).toNat ce0) :: Blk kg (grd w g v) 89 :: Sl encCe 4 v l :: F) h1 := s1
  have en : ∀ {k : Nat} {K : Value → Prop}, sNeqNil (ptr k 0) K = K (.bool true) := by intro k K; simp only [ptr, ev_neqNil, Option.isNone_some, Bool.not_false]
  rw [en, ev_if, if_pos rfl]
  refine all_spec s1.b2 (fun h2 e2 => ?_)
  unfold grid_Grid_Resize_j1
  have fin : ∀ l' h3, szOk a b l' → (∀ c ∈ l', c ∈ l ∨ c.r = 0) → HW.Sep h0 (Blk kg (grd w g v) 89 :: Sl encCe 4 v l :: Blk kn (grd a b vn) 89 :: Sl encCe 4 vn l' :: F) h3 → R (ptr kn 0) h3   := fun l' h3 zl hm s3 => by
    have s4 := Gshut z e s3
    have s5 : HW.Sep h0 (Gc kn a b (cell l' a b) :: Gc kg w g C :: F) h3 := Gshut zl rfl (selF (L := [_, _, _]) s4 [1, 2, 0] rfl (by decide))
    refine H1 hc kn _ h3 (fun ic => IC_cell (fun c hc2 => ?_)) s5
    rcases hm c hc2 with h | h
    · exact IC_list z (by rw [e]; exact ic) c h
    · rw [h]; exact i32_0
  have m0 : ∀ c ∈ List.replicate (a * b).toNat ce0, c ∈ l ∨ c.r = 0 := fun c hc2 => .inr (by rw [(List.mem_replicate.1 hc2).2]; rfl)
  exact blit2_spec (r := allR w g) z z' ((s1.ext' e2).b2.b3.b1) (fun _ h3 s3 => fin _ h3 z' m0 s3) (fun _ h3 s3 => fin _ h3 (by unfold szOk; rw [putRows_len]; exact z') (fun c hc2 => by
    rcases mem_putRows _ hc2 with h | ⟨k, h⟩
    · exact m0 c h
    · exact .inl (mem_srow h)) s3)
def sizM (m : Sc) (a b : Int) (st : List Bool) : Sc := { m with w := a, g := b, x := mnI m.x (a - 1), y := mnI m.y (b - 1), late := false, top := 0, bot := b - 1, st := st }
theorem Resize_spec {a b : Int} (hw : i64 a) (hg : i64 b) (hG : G h0) (z : HW.Sep h0 (Scr k m C off :: F) h) (o : OkS m) (H0 : ¬(1 ≤ a ∧ a ≤ 512 ∧ 1 ≤ b ∧ b ≤ 512) → ∀ h', HW.Sep h0 (Scr k m C off :: F) h' → R (.bool false) h') (H1 : (1 ≤ a ∧ a ≤ 512 ∧ 1 ≤ b ∧ b ≤ 512) → ∀ D st h', OkS (sizM m a b st) → wholeC D a b → (IC C → IC D) → HW.Sep h0 (Scr k (sizM m a b st) D off :: F) h' → R (.bool true) h') : screen_Screen_Resize_c (ptr k 0) (.int .i64 a) (.int .i64 b) h R := by
  apply screen_Screen_Resize_runs
  unfold screen_Screen_Resize_S
  have ow := o.w
  have ox := o.x
  have oy := o.y
  obtain ⟨kg, ov, rs, e, es, so⟩ := Sopen z
  have f0 : ∀ {K : Value → Prop}, sLd h (ptr k 0) K = K (ptr kg 0) := ldL so.has rfl
  rw [ev_nil, ev_off, Nat.zero_add, f0]
  refine gresize_spec hw hg so.b1 (fun hc => ?_) (fun hc kn D h1 hic s1 => ?_)
  · rw [ev_eqlNil, Option.isNone_none, ev_if, if_pos rfl]
    exact H0 hc h z
  have e0 : ∀ {K : Value → Prop}, sEqlNil (ptr kn 0) K = K (.bool false) := by intro K; simp only [ptr, ev_eqlNil, Option.isNone_some]
  rw [e0, ev_if, if_neg (by decide)]
  have s2 : HW.Sep h0 (Scr k m C off :: Gc kn a b D :: F) h1 := Sshut e es (selF (L := [_, _, _, _, _]) s1 [2, 1, 3, 4, 0] rfl (by decide))
  simp only [ev_nil, ev_off, Nat.zero_add, (rd s2).r1]
  obtain ⟨w0, hw0⟩ : ∃ w0 : Nat, m.w = w0 := ⟨m.w.toNat, by omega⟩
  refine ⟨fun t h' => ∃ (i : Nat) (st : List Bool), i ≤ 512 ∧ t = .int .i64 i ∧ HW.Sep h0 (Scr k { m with st := st } C off :: Gc kn a b D :: F) h', fun t _ => match t with | .int _ i => (512 - i).toNat | _ => 0, ⟨w0, m.st, by omega, by rw [hw0], s2⟩, ?_⟩
  rintro _ h3 ⟨i, st, hi, rfl, s3⟩
  simp only []
  unfold screen_Screen_Resize_l1
  rw [ev_lt, ev_if]
  by_cases hlt : (i : Int) < a
  · rw [if_pos (decide_eq_true hlt)]
    refine isStop_spec (fun b => ?_)
    rw [ev_nil, ev_off, Nat.zero_add, ev_ixa (by omega), Nat.mul_one]
    refine stStop s3 (by omega) (fun h4 s4 => ?_)
    rw [ev_add, wrap_i64 (by omega) (by omega)]
    exact ⟨⟨i + 1, st.set i b, by omega, by rw [Int.natCast_add]; rfl, s4⟩, by simp only; omega⟩
  · rw [if_neg (by simpa using hlt), ev_sub, wrap_i64 (by omega) (by omega)]
    obtain ⟨kg', ov', rs', e', es', s4⟩ := Sopen s3
    simp only [ev_nil, ev_off, Nat.zero_add, Nat.add_zero, Nat.reduceAdd]
    have cl : (scL { m with st := st } kg' ov').length = 534 := by rw [sc_len, es']
    refine stL s4 (by rw [cl]; omega) trivial (fun h5 s5 => ?_)
    have s5 : HW.Sep h0 (Blk k (scL { m with st := st } kn ov').toArray 64 :: Gc kg' m.w m.g C :: Sl encCV 1 ov' (rs'.map (·.1)) :: rowsP rs' :: Gc kn a b D :: F) h5 := s5
    refine stL s5 (by rw [sc_len, es']; omega) trivial (fun h6 s6 => ?_)
    have s6 : HW.Sep h0 (Blk k (scL { m with st := st, w := a } kn ov').toArray 64 :: Gc kg' m.w m.g C :: Sl encCV 1 ov' (rs'.map (·.1)) :: rowsP rs' :: Gc kn a b D :: F) h6 := s6
    refine stL s6 (by rw [sc_len, es']; omega) trivial (fun h7 s7 => ?_)
    have s7 : HW.Sep h0 (Blk k (scL { m with st := st, w := a, g := b } kn ov').toArray 64 :: Gc kg' m.w m.g C :: Sl encCV 1 ov' (rs'.map (·.1)) :: rowsP rs' :: Gc kn a b D :: F) h7 := s7
    refine stL s7 (by rw [sc_len, es']; omega) trivial (fun h8 s8 => ?_)
    have s8 : HW.Sep h0 (Blk k (scL { m with st := st, w := a, g := b, top := 0 } kn ov').toArray 64 :: Gc kg' m.w m.g C :: Sl encCV 1 ov' (rs'.map (·.1)) :: rowsP rs' :: Gc kn a b D :: F) h8 := s8
    refine stL s8 (by rw [sc_len, es']; omega) trivial (fun h9 s9 => ?_)
    have s9 : HW.Sep h0 (Blk k (scL { m with st := st, w := a, g := b, top := 0, bot := b - 1 } kn ov').toArray 64 :: Gc kg' m.w m.g C :: Sl encCV 1 ov' (rs'.map (·.1)) :: rowsP rs' :: Gc kn a b D :: F) h9 := s9
    have s10 : HW.Sep h0 (Scr k { m with st := st, w := a, g := b, top := 0, bot := b - 1 } D off :: F) h9 := Sshut (m := { m with st := st, w := a, g := b, top := 0, bot := b - 1 }) e' es' (selF (L := [_, _, _, _, _]) s9 [1, 0, 4, 2, 3] rfl (by decide)).tail
    refine cur_spec ?_
    simp (disch := omega) only [ev_nil, ev_off, Nat.zero_add, Nat.add_zero, Nat.reduceAdd, (rd s10).r3, (rd s10).r4, ev_sub, wrap_i64, ev_min]
    rw [show (if a - 1 < m.x then a - 1 else m.x) = mnI m.x (a - 1) from rfl, show (if b - 1 < m.y then b - 1 else m.y) = mnI m.y (b - 1) from rfl]
    refine st3 s10 (fun h11 s11 => st4 s11 (fun h12 s12 => st5 s12 (fun h13 s13 => ?_)))
    have s13 : HW.Sep h0 (Scr k (sizM m a b st) D off :: F) h13 := s13
    have ok : OkS (sizM m a b st) := by
      unfold sizM mnI
      refine ⟨⟨hc.1, hc.2.1⟩, hc.2.2, ?_, ?_, ?_, fun h => (nomatch h)⟩
      · simp only; split <;> omega
      · simp only; split <;> omega
      · simp only; omega
    refine ⟨fun t h' => ∃ (y : Int) (E : Cel), 0 ≤ y ∧ y ≤ b ∧ t = .int .i64 y ∧ (∀ y', 0 ≤ y' → y' < y → wholeR E a y') ∧ (IC C → IC E) ∧ HW.Sep h0 (Scr k (sizM m a b st) E off :: F) h', fun t _ => match t with | .int _ i => (b - i).toNat | _ => 0, ⟨0, D, by omega, by omega, rfl, fun y' h1 h2 => by omega, hic, s13⟩, ?_⟩
    rintro _ h14 ⟨y, E, y0, yb, rfl, hwh, hie, s14⟩
    simp only []
    unfold screen_Screen_Resize_l2
    rw [ev_lt, ev_if]
    by_cases hy : y < b
    · rw [if_pos (decide_eq_true hy)]
      refine mend_spec hG s14 (show 0 ≤ y ∧ y < b from ⟨y0, hy⟩) (fun E' h15 md s15 => ?_)
      rw [ev_add, wrap_i64 (by omega) (by omega)]
      refine ⟨⟨y + 1, E', by omega, by omega, rfl, fun y' h1 h2 => ?_, fun ic => IC_mended (hie ic) md, s15⟩, by simp only; omega⟩
      by_cases he : y' = y
      · subst he; exact md.whole
      · exact wholeR_of (y' := y') (fun x _ _ => md.other x y' he) (hwh y' h1 (by omega))
    · rw [if_neg (by simpa using hy)]
      exact H1 hc E st h14 ok (fun y' h1 h2 => hwh y' h1 (by omega)) hie s14
end
end Go.Proofs.YtmhhjpfkipficaaDoor


end

section
/- Screens: what every act keeps, act by act. -/
set_option linter.unusedSimpArgs false
set_option linter.unusedVariables false
namespace Go.Proofs.YtmhhjpfkipficaaDoor
open Go Go.HW

theorem rows_whole {C : Cel} {w g a n pb : Int} (ha : 0 ≤ a) (hn : 0 ≤ n) (hw : 1 ≤ w ∧ w ≤ 512) (hg : a + n ≤ g ∧ g ≤ 512) (z : wholeC C w g) : wholeC (fillF C w g ⟨0, a, w, n⟩ ⟨0, 0, pb, 0⟩) w g := fun y h0 h1 => by
  have hr : (⟨0, a, w, n⟩ : Rc).right = true := (Rc.right_iff _).2 (by unfold Rc.Ok; simp only; omega)
  by_cases hy : a ≤ y ∧ y < a + n
  · refine wholeR_blank (fun x x0 x1 => ?_)
    unfold fillF Rc.has
    rw [if_pos ⟨hr, ⟨x0, by simp only; omega, hy.1, hy.2⟩, inG_t ⟨x0, x1⟩ ⟨h0, h1⟩⟩]
  · refine wholeR_of (y' := y) (fun x x0 x1 => ?_) (z y h0 h1)
    unfold fillF Rc.has
    rw [if_neg (fun e => hy ⟨e.2.1.2.2.1, e.2.1.2.2.2⟩)]

section
variable {h0 h : Heap} {F : List HP} {R : Value → Heap → Prop} {k kg : Nat} {m : Sc} {C : Cel} {off : List (List Ce)}
theorem erase_whole {kind : Int} (o : OkS m) (z : wholeC C m.w m.g) : wholeC (eraseC m C kind) m.w m.g := by
  have ow := o.w
  have og := o.g
  have oy := o.y
  have z1 : wholeC (if kind ≠ 0 then fillF C m.w m.g ⟨0, 0, m.w, m.y⟩ m.bl else C) m.w m.g := by
    split
    · exact rows_whole (by omega) (by omega) ow (by omega) z
    · exact z
  unfold eraseC
  simp only []
  split
  · exact rows_whole (by omega) (by omega) ow (by omega) z1
  · exact z1
theorem IC_erase {kind : Int} (i : IC C) : IC (eraseC m C kind) := by
  have h1 : IC (if kind ≠ 0 then fillF C m.w m.g ⟨0, 0, m.w, m.y⟩ m.bl else C) := by
    split
    · exact IC_fill rfl i
    · exact i
  unfold eraseC
  simp only []
  split
  · exact IC_fill rfl h1
  · exact h1
theorem Kp.same {m' : Sc} (ok : OkS m') (w : m'.w = m.w) (g : m'.g = m.g) (t : m'.top = m.top) (b : m'.bot = m.bot) : Kp m C off m' C off := ⟨ok, id, by omega, w, g, t, b, id⟩
theorem late_ok (o : OkS m) : OkS { m with late := false } := ⟨o.w, o.g, o.x, o.y, o.t, fun h => (nomatch h)⟩
theorem move_dim {x y : Int} : (moveM m x y).w = m.w ∧ (moveM m x y).g = m.g ∧ (moveM m x y).top = m.top ∧ (moveM m x y).bot = m.bot := by
  unfold moveM; split <;> exact ⟨rfl, rfl, rfl, rfl⟩
theorem move_ok {x y : Int} (ow : 1 ≤ m.w ∧ m.w ≤ 512) (og : 1 ≤ m.g ∧ m.g ≤ 512) (ot : 0 ≤ m.top ∧ m.top ≤ m.bot ∧ m.bot < m.g) : OkS (moveM m x y) := by
  have h1 := withI_in (n := x) (show (0 : Int) ≤ m.w - 1 by omega)
  unfold moveM
  split
  · have h2 := withI_in (n := m.top + withI y (-m.g) m.g) ot.2.1
    exact ⟨ow, og, ⟨h1.1, by simp only; omega⟩, ⟨by simp only; omega, by simp only; omega⟩, ot, fun h => (nomatch h)⟩
  · have h2 := withI_in (n := 0 + withI y (-m.g) m.g) (show (0 : Int) ≤ m.g - 1 by omega)
    exact ⟨ow, og, ⟨h1.1, by simp only; omega⟩, ⟨by simp only; omega, by simp only; omega⟩, ot, fun h => (nomatch h)⟩
theorem shift_ok {x y : Int} (o : OkS m) : OkS (shiftM m x y) := by
  have ow := o.w
  have og := o.g
  have oy := o.y
  have ot := o.t
  have h1 := withI_in (n := m.x + withI x (-m.w) m.w) (show (0 : Int) ≤ m.w - 1 by omega)
  have h2 := withI_in (n := m.y + withI y (-m.g) m.g) (show (if m.y ≥ m.top then m.top else 0) ≤ (if m.y ≤ m.bot then m.bot else m.g - 1) by split <;> split <;> omega)
  have h3 : 0 ≤ (if m.y ≥ m.top then m.top else 0) := by split <;> omega
  have h4 : (if m.y ≤ m.bot then m.bot else m.g - 1) < m.g := by split <;> omega
  unfold shiftM
  exact ⟨ow, og, ⟨h1.1, by simp only; omega⟩, ⟨by simp only; omega, by simp only; omega⟩, ot, fun h => (nomatch h)⟩
theorem back_ok (o : OkS m) : OkS (backM m) := by
  have oy := o.y
  unfold backM
  split
  · exact late_ok o
  · split
    · exact ⟨o.w, o.g, o.x, ⟨by simp only; omega, by simp only; omega⟩, o.t, fun h => (nomatch h)⟩
    · exact late_ok o
theorem back_dim : (backM m).w = m.w ∧ (backM m).g = m.g ∧ (backM m).top = m.top ∧ (backM m).bot = m.bot := by
  unfold backM; split
  · exact ⟨rfl, rfl, rfl, rfl⟩
  · split <;> exact ⟨rfl, rfl, rfl, rfl⟩
theorem rest_ok (o : OkS m) : OkS (restM m) := by
  have ow := o.w
  have og := o.g
  have h1 := withI_in (n := m.x') (show (0 : Int) ≤ m.w - 1 by omega)
  have h2 := withI_in (n := m.y') (show (0 : Int) ≤ m.g - 1 by omega)
  unfold restM
  exact ⟨ow, og, ⟨h1.1, by simp only; omega⟩, ⟨h2.1, by simp only; omega⟩, o.t, fun h => (nomatch h)⟩

theorem Line_k (z : HW.Sep h0 (Scr k m C off :: F) h) (o : OkS m) (hb : off.length ≤ 900000) (H : ∀ m' C' off' h', Kp m C off m' C' off' → HW.Sep h0 (Scr k m' C' off' :: F) h' → R unit h') : screen_Screen_Line_c (ptr k 0) h R :=
  Line_spec z o.g o.y o.t (by omega) (fun h' s' => H _ _ _ h' ⟨line_ok o, lineC_whole o, by have := lineO_len (C := C) (off := off) o; omega, line_dim.1, line_dim.2.1, line_dim.2.2.1, line_dim.2.2.2.1, IC_lineC⟩ s')
theorem Back_k (z : HW.Sep h0 (Scr k m C off :: F) h) (o : OkS m) (H : ∀ m' C' off' h', Kp m C off m' C' off' → HW.Sep h0 (Scr k m' C' off' :: F) h' → R unit h') : screen_Screen_Back_c (ptr k 0) h R :=
  Back_spec z o (fun h' s' => H _ _ _ h' ⟨back_ok o, fun wc => by
    have := o.t
    unfold backC; split
    · exact downC_whole (by omega) wc
    · exact wc, by omega, back_dim.1, back_dim.2.1, back_dim.2.2.1, back_dim.2.2.2, fun ic => by
    unfold backC; split
    · exact IC_downC ic
    · exact ic⟩ s')
theorem Move_k {x y : Int} (z : HW.Sep h0 (Scr k m C off :: F) h) (o : OkS m) (H : ∀ m' C' off' h', Kp m C off m' C' off' → HW.Sep h0 (Scr k m' C' off' :: F) h' → R unit h') : screen_Screen_Move_c (ptr k 0) (.int .i64 x) (.int .i64 y) h R :=
  Move_spec z o.g o.w o.t (fun h' s' => by refine H _ _ _ h' ?_ s'; exact (Kp.same (move_ok o.w o.g o.t) move_dim.1 move_dim.2.1 move_dim.2.2.1 move_dim.2.2.2))
theorem Shift_k {x y : Int} (z : HW.Sep h0 (Scr k m C off :: F) h) (o : OkS m) (H : ∀ m' C' off' h', Kp m C off m' C' off' → HW.Sep h0 (Scr k m' C' off' :: F) h' → R unit h') : screen_Screen_Shift_c (ptr k 0) (.int .i64 x) (.int .i64 y) h R :=
  Shift_spec z o (fun h' s' => by refine H _ _ _ h' ?_ s'; exact (Kp.same (shift_ok o) rfl rfl rfl rfl))
theorem Tab_k {n : Int} (z : HW.Sep h0 (Scr k m C off :: F) h) (o : OkS m) (H : ∀ m' C' off' h', Kp m C off m' C' off' → HW.Sep h0 (Scr k m' C' off' :: F) h' → R unit h') : screen_Screen_Tab_c (ptr k 0) (.int .i64 n) h R :=
  Tab_spec z o (fun x h' hx s' => by refine H _ _ _ h' ?_ s'; exact (Kp.same ⟨o.w, o.g, hx, o.y, o.t, fun h => (nomatch h)⟩ rfl rfl rfl rfl))
theorem TabSet_k (z : HW.Sep h0 (Scr k m C off :: F) h) (o : OkS m) (H : ∀ m' C' off' h', Kp m C off m' C' off' → HW.Sep h0 (Scr k m' C' off' :: F) h' → R unit h') : screen_Screen_TabSet_c (ptr k 0) h R :=
  TabSet_spec z o (fun st h' s' => by refine H _ _ _ h' ?_ s'; exact (Kp.same ⟨o.w, o.g, o.x, o.y, o.t, o.late⟩ rfl rfl rfl rfl))
theorem TabClear_k {all : Bool} (z : HW.Sep h0 (Scr k m C off :: F) h) (o : OkS m) (H : ∀ m' C' off' h', Kp m C off m' C' off' → HW.Sep h0 (Scr k m' C' off' :: F) h' → R unit h') : screen_Screen_TabClear_c (ptr k 0) (.bool all) h R :=
  TabClear_spec z o (fun st h' s' => by refine H _ _ _ h' ?_ s'; exact (Kp.same ⟨o.w, o.g, o.x, o.y, o.t, o.late⟩ rfl rfl rfl rfl))
theorem Erase_k {kind : Int} (hG : G h0) (z : HW.Sep h0 (Scr k m C off :: F) h) (o : OkS m) (H : ∀ m' C' off' h', Kp m C off m' C' off' → HW.Sep h0 (Scr k m' C' off' :: F) h' → R unit h') : screen_Screen_Erase_c (ptr k 0) (.int .i64 kind) h R :=
  Erase_spec hG z o (fun _ => H _ _ _ h (Kp.refl o) z) (fun _ D h' md s' => H _ _ _ h' ⟨o, fun wc => (mended_row md (fun a b hb => fill_other hb) (IC_fill rfl)).all (erase_whole o wc), by omega, rfl, rfl, rfl, rfl, fun ic => IC_mended (IC_fill rfl (IC_erase ic)) md⟩ s')
theorem EraseLine_k {kind : Int} (hG : G h0) (z : HW.Sep h0 (Scr k m C off :: F) h) (o : OkS m) (H : ∀ m' C' off' h', Kp m C off m' C' off' → HW.Sep h0 (Scr k m' C' off' :: F) h' → R unit h') : screen_Screen_EraseLine_c (ptr k 0) (.int .i64 kind) h R :=
  EraseLine_spec hG z o (fun _ => H _ _ _ h (Kp.refl o) z) (fun _ D h' md s' => H _ _ _ h' ⟨o, fun wc => (mended_row md (fun a b hb => fill_other hb) (IC_fill rfl)).all wc, by omega, rfl, rfl, rfl, rfl, fun ic => IC_mended (IC_fill rfl ic) md⟩ s')
theorem Cells_k {n : Int} {on : Bool} (hG : G h0) (z : HW.Sep h0 (Scr k m C off :: F) h) (o : OkS m) (H : ∀ m' C' off' h', Kp m C off m' C' off' → HW.Sep h0 (Scr k m' C' off' :: F) h' → R unit h') : screen_Screen_Cells_c (ptr k 0) (.int .i64 n) (.bool on) h R :=
  Cells_spec hG z o (fun D h' rt s' => H _ _ _ h' ⟨late_ok o, fun wc => rt.all wc, by omega, rfl, rfl, rfl, rfl, rt.rng⟩ s')
theorem Lines_k {n : Int} {on : Bool} (z : HW.Sep h0 (Scr k m C off :: F) h) (o : OkS m) (H : ∀ m' C' off' h', Kp m C off m' C' off' → HW.Sep h0 (Scr k m' C' off' :: F) h' → R unit h') : screen_Screen_Lines_c (ptr k 0) (.int .i64 n) (.bool on) h R :=
  Lines_spec z o (fun h' s' => H _ _ _ h' (Kp.same (late_ok o) rfl rfl rfl rfl) s') (fun hy h' s' => by
    refine H _ _ _ h' ?_ s'
    refine ⟨⟨o.w, o.g, ⟨Int.le_refl 0, by have := o.w; show 0 < m.w; omega⟩, o.y, o.t, fun h => (nomatch h)⟩, fun wc => ?_, by omega, rfl, rfl, rfl, rfl, fun ic => ?_⟩
    rotate_left
    · split
      · exact IC_downC ic
      · split
        · exact ic
        · exact IC_upF rfl ic
    have oy := o.y
    have ot := o.t
    split
    · exact downC_whole (by omega) wc
    · split
      · exact wc
      · exact up_whole (by omega) (by omega) wc)
theorem Scroll_k {n : Int} (hn : i64 n) (z : HW.Sep h0 (Scr k m C off :: F) h) (o : OkS m) (hb : off.length ≤ 900000) (H : ∀ m' C' off' h', Kp m C off m' C' off' → HW.Sep h0 (Scr k m' C' off' :: F) h' → R unit h') : screen_Screen_Scroll_c (ptr k 0) (.int .i64 n) h R :=
  Scroll_spec hn z o (by omega) (fun h' s' => H _ _ _ h' ⟨late_ok o, fun wc => by
    have ot := o.t
    split
    · exact upC_whole (by omega) wc
    · exact downC_whole (by omega) wc, by
    have := upO_len (C := C) (off := off) (n := n) o
    split <;> omega, rfl, rfl, rfl, rfl, fun ic => by
    split
    · exact IC_upC ic
    · exact IC_downC ic⟩ s')
theorem Mode_k {n : Int} {on : Bool} (z : HW.Sep h0 (Scr k m C off :: F) h) (o : OkS m) (H : ∀ r m' C' off' h', Kp m C off m' C' off' → HW.Sep h0 (Scr k m' C' off' :: F) h' → R (.bool r) h') : screen_Screen_Mode_c (ptr k 0) (.int .i64 n) (.bool on) h R :=
  Mode_spec z o (H false _ _ _ h (Kp.refl o) z) (fun h' s' => H true _ _ _ h' (Kp.same (m := m) (move_ok (m := { m with org := on }) o.w o.g o.t) (move_dim (m := { m with org := on })).1 (move_dim (m := { m with org := on })).2.1 (move_dim (m := { m with org := on })).2.2.1 (move_dim (m := { m with org := on })).2.2.2) s')
    (fun h' s' => by refine H true _ _ _ h' ?_ s'; exact (Kp.same ⟨o.w, o.g, o.x, o.y, o.t, fun h => (nomatch h)⟩ rfl rfl rfl rfl)) (fun h' s' => by refine H true _ _ _ h' ?_ s'; exact (Kp.same ⟨o.w, o.g, o.x, o.y, o.t, fun h => (nomatch h)⟩ rfl rfl rfl rfl))
theorem SetPen_k {f b g : Int} (z : HW.Sep h0 (Scr k m C off :: F) h) (o : OkS m) (H : ∀ m' C' off' h', Kp m C off m' C' off' → HW.Sep h0 (Scr k m' C' off' :: F) h' → R unit h') : screen_Screen_SetPen_c (ptr k 0) (.agg (penA f b g)) h R :=
  SetPen_spec z (fun h' s' => by refine H _ _ _ h' ?_ s'; exact (Kp.same ⟨o.w, o.g, o.x, o.y, o.t, o.late⟩ rfl rfl rfl rfl))
theorem Save_k (z : HW.Sep h0 (Scr k m C off :: F) h) (o : OkS m) (H : ∀ m' C' off' h', Kp m C off m' C' off' → HW.Sep h0 (Scr k m' C' off' :: F) h' → R unit h') : screen_Screen_Save_c (ptr k 0) h R :=
  Save_spec z (fun h' s' => by refine H _ _ _ h' ?_ s'; exact (Kp.same ⟨o.w, o.g, o.x, o.y, o.t, o.late⟩ rfl rfl rfl rfl))
theorem Restore_k (z : HW.Sep h0 (Scr k m C off :: F) h) (o : OkS m) (H : ∀ m' C' off' h', Kp m C off m' C' off' → HW.Sep h0 (Scr k m' C' off' :: F) h' → R unit h') : screen_Screen_Restore_c (ptr k 0) h R :=
  Restore_spec z o (fun h' s' => by refine H _ _ _ h' ?_ s'; exact (Kp.same (rest_ok o) rfl rfl rfl rfl))
end
end Go.Proofs.YtmhhjpfkipficaaDoor


end

section
/- The shallow reading of one function, and that the function does it. Written by a program. -/
set_option linter.unusedVariables false
namespace Go.Proofs.YtmhhjpfkipficaaDoor
open Go Go.HW _root_.Go.Proofs.Tryd

def betonyref24_Screen_blank_S (x0 : Value) (h : Heap) (R : Value → Heap → Prop) : Prop :=
  sNew h #[.int .i32 0, .int .i64 0, .int .i64 0, .int .i64 0] 31 fun x2 h => 
  sNil x0 fun x4 =>
  sOff x4 6 fun x5 =>
  sOff x5 1 fun x6 =>
  sLd h x6 fun x7 =>
  sBuild #[.int .i64 0, .int .i64 0, .int .i64 0] [(1, 1, x7)] fun x8 =>
  sBuild #[.int .i32 0, .int .i64 0, .int .i64 0, .int .i64 0] [(1, 3, x8)] fun x9 =>
  sStN h x2 x9 4 fun h_1 => 
  sLdN h_1 x2 4 fun r2 =>
  R r2 h_1
set_option maxRecDepth 100000 in
theorem betonyref24_Screen_blank_runs {x0 : Value} {h : Heap} {R : Value → Heap → Prop} (H : betonyref24_Screen_blank_S x0 h R) : betonyref24_Screen_blank_c x0 h R := by
 unfold betonyref24_Screen_blank_S at H
 refine runsof (b := (mk (Ap [x0] 9))) call98 func98 rfl fun w0 HA => wp_seq (lwp_list ?_)
 refine lsd 2 HA (d_alloc zeroValue31 H) fun x2 h w H HA => ls_nil (then_normal ?_)
 refine freq (mk (Ap [x0,ud,x2] 7)) <| wp_seq (lwp_list ?_)
 refine lsmove x0 <| lsp 4 (pnil H) fun x4 H => lsp 5 (poff underlying75 rfl sizeOf29 rfl H) fun x5 H => lsp 6 (poff underlying29 rfl sizeOf3 rfl H) fun x6 H => lsy 7 HA (yld isAgg3 H) fun x7 H => lsp 8 (plit (pl := [(0,1),(1,1),(2,1)]) zeroValue29 underlying29 ⟨(by kernel_rfl),sizeOf3,(by kernel_rfl),sizeOf3,(by kernel_rfl),sizeOf3,trivial⟩ H) fun x8 H => lsp 9 (plit (pl := [(0,1),(1,3)]) zeroValue31 underlying31 ⟨(by kernel_rfl),sizeOf21,(by kernel_rfl),sizeOf29,trivial⟩ H) fun x9 H => lsdn HA (dstn sizeOf31 H) fun _ h_1 w_1 H HA_1 => ls_nil (then_normal ?_)
 refine freq (mk [x0,ud,x2,x0,x4,x5,x6,x7,x8,x9]) <| wp_ret ?_
 obtain ⟨r2,hr2,H⟩ := ld_n isAgg31 sizeOf31 H
 exact endR (vs := [r2]) (results98) (by kernel_rfl) ⟨⟨_,(by kernel_rfl),hr2⟩, trivial⟩ HA_1 H _ (.inr rfl)

end Go.Proofs.YtmhhjpfkipficaaDoor


end

section
/- The shallow reading of one function, and that the function does it. Written by a program. -/
set_option linter.unusedVariables false
namespace Go.Proofs.YtmhhjpfkipficaaDoor
open Go Go.HW _root_.Go.Proofs.Tryd

def betonyref24_Screen_blanks_l1 (R : Value → Heap → Prop) (x0 x1 : Value) (next : Value → Value → Heap → Prop) (x5 x6 : Value) (h : Heap) : Prop :=
  sLt x6 x1 fun x9 =>
  sIf x9 (betonyref24_Screen_blank_c x0 h fun x14 h_1 => 
  sSlit h_1 #[.int .i32 0, .int .i64 0, .int .i64 0, .int .i64 0] [(0, 4, x14)] 31 1 fun x15 h_2 => 
  sApp h_2 x5 x15 #[.int .i32 0, .int .i64 0, .int .i64 0, .int .i64 0] 31 32 fun x16 h_3 => 
  sAdd .i64 x6 (.int .i64 1) fun x11 =>
  next x16 x11 h_3) (R x5 h)
def betonyref24_Screen_blanks_S (x0 x1 : Value) (h : Heap) (R : Value → Heap → Prop) : Prop :=
  sLoop (S := Value × Value) (fun nxt s h => betonyref24_Screen_blanks_l1 R x0 x1 (fun x5' x6' h => nxt (x5', x6') h) s.1 s.2 h) ((.slice none 0 0), (.int .i64 0)) h
set_option maxRecDepth 100000 in
theorem betonyref24_Screen_blanks_runs {x0 x1 : Value} {h : Heap} {R : Value → Heap → Prop} (H : betonyref24_Screen_blanks_S x0 x1 h R) : betonyref24_Screen_blanks_c x0 x1 h R := by
 unfold betonyref24_Screen_blanks_S at H
 refine runsof (b := (mk (Ap [x0,x1] 16))) call85 func85 rfl fun w0 HA => wp_seq (lwp_list ?_)
 refine lsassign (.slice none 0 0) <| ls_nil (then_normal ?_)
 refine freq (mk (Ap [x0,x1,ud,ud,(.slice none 0 0)] 13)) <| wp_seq (lwp_list ?_)
 refine lsassign (.slice none 0 0) <| ls_nil (then_normal ?_)
 refine freq (mk (Ap [x0,x1,ud,ud,(.slice none 0 0),(.slice none 0 0)] 12)) <| wp_seq <| wp_seq (lwp_list ?_)
 refine lsassign (.int .i64 0) <| ls_nil (then_normal ?_)
 refine freq (mk (Ap [x0,x1,ud,ud,(.slice none 0 0),(.slice none 0 0),(.int .i64 0)] 11)) <| wp_block ?_
 obtain ⟨I,m,H0,HB⟩ := H
 refine wp_loop (fun a w => ∃ (D : Nat → Value) (x5 x6 : Value) (h : Heap),a = (mk ([x0,x1,ud,ud,(.slice none 0 0),x5,x6] ++ (Ad D 0 10 [ud]))) ∧ At w0 w h ∧ I (x5,x6) h) (fun a w => m ((a.tmps.getD 5 ud),(a.tmps.getD 6 ud)) w.heap) ?_ ?_
 ·exact ⟨(gd (Ap [] 10)),(.slice none 0 0),(.int .i64 0),h,by kernel_rfl,HA,H0⟩
 ·rintro _ w ⟨D,x5,x6,h,rfl,HA,HI⟩
  have H : betonyref24_Screen_blanks_l1 R x0 x1 (fun x5' x6' h' => I (x5', x6') h' ∧ m (x5', x6') h' < m (x5,x6) h) x5 x6 h := HB (x5,x6) h HI
  clear HB H0 HI
  unfold betonyref24_Screen_blanks_l1 at H
  refine wp_seq <| wp_seq (lwp_list ?_)
  refine lsmove x6 <| lsmove x1 <| lsp 9 (psLt H) fun x9 H => ls_nil (then_normal ?_)
  refine freq (mk ([x0,x1,ud,ud,(.slice none 0 0),x5,x6,x6,x1,x9] ++ (Ad D 3 7 [ud]))) <| wp_if rfl H (fun H => ?_) (fun H => ?_)
  ·refine wp_skip <| then_normal <| freq (mk ([x0,x1,ud,ud,(.slice none 0 0),x5,x6,x6,x1,x9] ++ (Ad D 3 7 [ud]))) <| wp_seq <| wp_block <| lwp_list <| lsmove x5 <| lsmove x0 <| lsd 14 HA (dcall H) fun x14 h_1 w_1 H HA_1 => lsd 15 HA_1 (dslit (zc := #[.int .i32 0, .int .i64 0, .int .i64 0, .int .i64 0]) underlying32 sizeOf31 (by decide) (.inr ⟨by decide,_,zeroValue31,(by kernel_rfl)⟩) H) fun x15 h_2 w_2 H HA_2 => lsd 16 HA_2 (dapp (z := #[.int .i32 0, .int .i64 0, .int .i64 0, .int .i64 0]) underlying32 underlying32 (.inl ⟨_,rfl⟩) typeInfo31 sizeOf31 zeroValue31 H) fun x16 h_3 w_3 H HA_3 => lsassign x16 <| ls_nil <| block_normal ?_
   refine then_normal <| freq (mk [x0,x1,ud,ud,(.slice none 0 0),x16,x6,x6,x1,x9,(D 3),(D 4),x5,x0,x14,x15,x16,ud]) <| lwp_list <| lsmove x6 <| lsp 11 (padd H) fun x11 H => lsassign x11 <| ls_nil <| ⟨⟨(gd ([x6,x1,x9,x6,x11,x5,x0,x14,x15,x16])),x16,x11,h_3,by kernel_rfl,HA_3,H.1⟩, loop_lt HA_3.heap HA.heap (by kernel_rfl) (by kernel_rfl) H.2⟩
  ·refine wp_exit <| then_exit <| then_exit <| block_exit <| then_normal <| freq (mk ([x0,x1,ud,ud,(.slice none 0 0),x5,x6,x6,x1,x9] ++ (Ad D 3 7 [ud]))) <| wp_seq (lwp_list ?_)
   refine lsmove x5 <| lsassign x5 <| ls_nil (then_normal ?_)
   refine freq (mk ([x0,x1,ud,ud,x5,x5,x6,x6,x1,x9] ++ (Ad D 3 7 [x5]))) <| wp_ret <| end1 (results85) (by kernel_rfl) (by kernel_rfl) HA H _ (.inr rfl)

end Go.Proofs.YtmhhjpfkipficaaDoor


end

section
/- The shallow reading of one function, and that the function does it. Written by a program. -/
set_option linter.unusedVariables false
namespace Go.Proofs.YtmhhjpfkipficaaDoor
open Go Go.HW _root_.Go.Proofs.Tryd

def betonyref24_whole_j2 (next : Value → Value → Heap → Prop) (x3_1 x4_1 : Value) (h_1 : Heap) : Prop :=
  sAdd .i64 x4_1 (.int .i64 1) fun x12 =>
  next x3_1 x12 h_1
def betonyref24_whole_j3 (next : Value → Value → Heap → Prop) (x3 x4 x5 : Value) (h_7 : Heap) : Prop :=
  sLdN h_7 x5 4 fun x63 =>
  sSlit h_7 #[.int .i32 0, .int .i64 0, .int .i64 0, .int .i64 0] [(0, 4, x63)] 31 1 fun x64 h_8 => 
  sApp h_8 x3 x64 #[.int .i32 0, .int .i64 0, .int .i64 0, .int .i64 0] 31 32 fun x65 h_9 => 
  betonyref24_whole_j2 next x65 x4 h_9
def betonyref24_whole_l1 (R : Value → Heap → Prop) (x0 : Value) (next : Value → Value → Heap → Prop) (x3 x4 : Value) (h : Heap) : Prop :=
  sLen x0 fun x9 =>
  sLt x4 x9 fun x10 =>
  sIf x10 (sIxS x0 x4 4 fun x15 =>
  sLdN h x15 4 fun x16 =>
  sNew h #[.int .i32 0, .int .i64 0, .int .i64 0, .int .i64 0] 31 fun x5 h_2 => 
  sStN h_2 x5 x16 4 fun h_3 => 
  sOff x5 0 fun x17 =>
  sLd h_3 x17 fun x18 =>
  sGt x18 (.int .i32 0) fun x19 =>
  sAndH x19 h_3 (fun k_3 =>
  sOff x5 0 fun x21 =>
  sLd h_3 x21 fun x22 =>
  sConv .i64 x22 fun x23 =>
  betonyref03_Width_c x23 h_3 fun x24 h_11 => 
  sEq x24 (.int .i64 2) fun x25 =>
  k_3 x25 h_11) fun x26 h_4 =>
  sAnd x26 (fun k_2 =>
  sAdd .i64 x4 (.int .i64 1) fun x30 =>
  sLen x0 fun x32 =>
  sLt x30 x32 fun x33 =>
  k_2 x33) fun x34 =>
  sAnd x34 (fun k_1 =>
  sAdd .i64 x4 (.int .i64 1) fun x38 =>
  sIxS x0 x38 4 fun x39 =>
  sOff x39 0 fun x40 =>
  sLd h_4 x40 fun x41 =>
  sEq x41 (.int .i32 (-1)) fun x42 =>
  k_1 x42) fun x43 =>
  sIf x43 (sLdN h_4 x5 4 fun x45 =>
  sAdd .i64 x4 (.int .i64 1) fun x48 =>
  sIxS x0 x48 4 fun x49 =>
  sLdN h_4 x49 4 fun x50 =>
  sSlit h_4 #[.int .i32 0, .int .i64 0, .int .i64 0, .int .i64 0, .int .i32 0, .int .i64 0, .int .i64 0, .int .i64 0] [(0, 4, x45), (4, 4, x50)] 31 2 fun x51 h_5 => 
  sApp h_5 x3 x51 #[.int .i32 0, .int .i64 0, .int .i64 0, .int .i64 0] 31 32 fun x52 h_6 => 
  sAdd .i64 x4 (.int .i64 1) fun x54 =>
  betonyref24_whole_j2 next x52 x54 h_6) (sOr x26 (fun k =>
  sOff x5 0 fun x57 =>
  sLd h_4 x57 fun x58 =>
  sEq x58 (.int .i32 (-1)) fun x59 =>
  k x59) fun x60 =>
  sIf x60 (sOff x5 0 fun x61 =>
  sSt h_4 x61 (.int .i32 0) fun h_10 => 
  betonyref24_whole_j3 next x3 x4 x5 h_10) (betonyref24_whole_j3 next x3 x4 x5 h_4))) (R x3 h)
def betonyref24_whole_S (x0 : Value) (h : Heap) (R : Value → Heap → Prop) : Prop :=
  sLoop (S := Value × Value) (fun nxt s h => betonyref24_whole_l1 R x0 (fun x3' x4' h => nxt (x3', x4') h) s.1 s.2 h) ((.slice none 0 0), (.int .i64 0)) h
set_option maxRecDepth 100000 in
theorem betonyref24_whole_runs {x0 : Value} {h : Heap} {R : Value → Heap → Prop} (H : betonyref24_whole_S x0 h R) : betonyref24_whole_c x0 h R := by
 unfold betonyref24_whole_S at H
 refine runsof (b := (mk (Ap [x0] 66))) call89 func89 rfl fun w0 HA => wp_seq (lwp_list ?_)
 refine lsassign (.slice none 0 0) <| ls_nil (then_normal ?_)
 refine freq (mk (Ap [x0,ud,(.slice none 0 0)] 64)) <| wp_seq (lwp_list ?_)
 refine lsassign (.slice none 0 0) <| ls_nil (then_normal ?_)
 refine freq (mk (Ap [x0,ud,(.slice none 0 0),(.slice none 0 0)] 63)) <| wp_seq <| wp_seq (lwp_list ?_)
 refine lsassign (.int .i64 0) <| ls_nil (then_normal ?_)
 refine freq (mk (Ap [x0,ud,(.slice none 0 0),(.slice none 0 0),(.int .i64 0)] 62)) <| wp_block ?_
 obtain ⟨I,m,H0,HB⟩ := H
 refine wp_loop (fun a w => ∃ (D : Nat → Value) (x3 x4 : Value) (h : Heap),a = (mk ([x0,ud,(.slice none 0 0),x3,x4] ++ (Ad D 0 61 [ud]))) ∧ At w0 w h ∧ I (x3,x4) h) (fun a w => m ((a.tmps.getD 3 ud),(a.tmps.getD 4 ud)) w.heap) ?_ ?_
 ·exact ⟨(gd (Ap [] 61)),(.slice none 0 0),(.int .i64 0),h,by kernel_rfl,HA,H0⟩
 ·rintro _ w ⟨D,x3,x4,h,rfl,HA,HI⟩
  have H : betonyref24_whole_l1 R x0 (fun x3' x4' h' => I (x3', x4') h' ∧ m (x3', x4') h' < m (x3,x4) h) x3 x4 h := HB (x3,x4) h HI
  clear HB H0 HI
  unfold betonyref24_whole_l1 at H
  refine wp_seq <| wp_seq (lwp_list ?_)
  refine lsmove x4 <| lsmove x0 <| lsp 9 (plen underlying32 H) fun x9 H => lsp 10 (psLt H) fun x10 H => ls_nil (then_normal ?_)
  refine freq (mk ([x0,ud,(.slice none 0 0),x3,x4,(D 0),(D 1),x4,x0,x9,x10] ++ (Ad D 6 55 [ud]))) <| wp_if rfl H (fun H => ?_) (fun H => ?_)
  ·refine wp_skip <| then_normal <| freq (mk ([x0,ud,(.slice none 0 0),x3,x4,(D 0),(D 1),x4,x0,x9,x10] ++ (Ad D 6 55 [ud]))) <| wp_seq <| wp_join (fun a w => ∃ (D_1 : Nat → Value) (x3_1 x4_1 : Value) (h_1 : Heap),a = (mk ([x0,ud,(.slice none 0 0),x3_1,x4_1,(D_1 0),(D_1 1),x4,x0,x9,x10,(D 6),(D 7)] ++ (Ad D_1 2 53 [ud]))) ∧ At w0 w h_1 ∧ betonyref24_whole_j2 (fun x3' x4' h' => I (x3', x4') h' ∧ m (x3', x4') h' < m (x3,x4) h) x3_1 x4_1 h_1) ?_ ?_
   ·refine wp_block <| wp_seq (lwp_list ?_)
    refine lsmove x0 <| lsmove x4 <| lsp 15 (pixs underlying32 sizeOf31 H) fun x15 H => lsy 16 HA (yldn isAgg31 sizeOf31 H) fun x16 H => lsd 5 HA (d_alloc zeroValue31 H) fun x5 h_2 w_2 H HA_2 => lsdn HA_2 (dstn sizeOf31 H) fun _ h_3 w_3 H HA_3 => ls_nil (then_normal ?_)
    refine freq (mk ([x0,ud,(.slice none 0 0),x3,x4,x5,(D 1),x4,x0,x9,x10,(D 6),(D 7),x0,x4,x15,x16] ++ (Ad D 12 49 [ud]))) <| wp_seq (lwp_list ?_)
    refine lsp 17 (poff underlying31 rfl sizeOf21 rfl H) fun x17 H => lsy 18 HA_3 (yld isAgg21 H) fun x18 H => lsp 19 (psGt H) fun x19 H => lsmove x19 <| ls_andh [(),(),(),(),(),()] (fun K a w => ∃ (D_2 : Nat → Value) (x26 : Value) (h_4 : Heap),a = (mk ([x0,ud,(.slice none 0 0),x3,x4,x5,(D 1),x4,x0,x9,x10,(D 6),(D 7),x0,x4,x15,x16,x17,x18,x19,x19] ++ (Ad D_2 0 5 ([x26] ++ (Ad D 22 39 [ud]))))) ∧ At w0 w h_4 ∧ K x26 h_4) H (fun hb_3 H => ?_) (fun hb_3 H => ?_) ?_
    ·refine lsp (hg := by rw [hb_3]; kernel_rfl) 21 (poff underlying31 rfl sizeOf21 rfl H) fun x21 H => lsy (hg := by rw [hb_3]; kernel_rfl) 22 HA_3 (yld isAgg21 H) fun x22 H => lsp (hg := by rw [hb_3]; kernel_rfl) 23 (pconv underlying21 underlying3 H) fun x23 H => lsd (hg := by rw [hb_3]; kernel_rfl) 24 HA_3 (dcall H) fun x24 h_11 w_15 H HA_15 => lsp (hg := by rw [hb_3]; kernel_rfl) 25 (psEq H) fun x25 H => lspickt x25 (by rw [hb_3]; kernel_rfl) <| ls_nil (then_normal ?_)
     exact ⟨(gd ([x21,x22,x23,x24,x25])),x25,h_11,by kernel_rfl,HA_15,H⟩
    ·refine lsskip (hg := by rw [hb_3]; kernel_rfl) 21 <| lsskip (hg := by rw [hb_3]; kernel_rfl) 22 <| lsskip (hg := by rw [hb_3]; kernel_rfl) 23 <| lsskip (hg := by rw [hb_3]; kernel_rfl) 24 <| lsskip (hg := by rw [hb_3]; kernel_rfl) 25 <| lspickf (.bool false) (by rw [hb_3]; kernel_rfl) <| ls_nil (then_normal ?_)
     exact ⟨(gd (Ap [] 5)),(.bool false),h_3,by kernel_rfl,HA_3,H⟩
    ·rintro _ w_4 ⟨D_2,x26,h_4,rfl,HA_4,H⟩
     refine lsassign x26 <| ls_nil (then_normal ?_)
     refine freq (mk ([x0,ud,(.slice none 0 0),x3,x4,x5,x26,x4,x0,x9,x10,(D 6),(D 7),x0,x4,x15,x16,x17,x18,x19,x19] ++ (Ad D_2 0 5 ([x26] ++ (Ad D 22 39 [ud]))))) <| wp_seq <| wp_seq (lwp_list ?_)
     refine lsmove x26 <| lsmove x26 <| ls_and [(),(),(),(),(),()] (fun K a w => ∃ (D_3 : Nat → Value) (x34 : Value),a = (mk ([x0,ud,(.slice none 0 0),x3,x4,x5,x26,x4,x0,x9,x10,(D 6),(D 7),x0,x4,x15,x16,x17,x18,x19,x19] ++ (Ad D_2 0 5 ([x26,x26,x26] ++ (Ad D_3 0 5 ([x34] ++ (Ad D 30 31 [ud]))))))) ∧ At w0 w h_4 ∧ K x34) H (fun hb_2 H => ?_) (fun hb_2 H => ?_) ?_
     ·refine lsmove (hg := by rw [hb_2]; kernel_rfl) x4 <| lsp (hg := by rw [hb_2]; kernel_rfl) 30 (padd H) fun x30 H => lsmove (hg := by rw [hb_2]; kernel_rfl) x0 <| lsp (hg := by rw [hb_2]; kernel_rfl) 32 (plen underlying32 H) fun x32 H => lsp (hg := by rw [hb_2]; kernel_rfl) 33 (psLt H) fun x33 H => lspickt x33 (by rw [hb_2]; kernel_rfl) <| ls_nil (then_normal ?_)
      exact ⟨(gd ([x4,x30,x0,x32,x33])),x33,by kernel_rfl,HA_4,H⟩
     ·refine lsskip (hg := by rw [hb_2]; kernel_rfl) 29 <| lsskip (hg := by rw [hb_2]; kernel_rfl) 30 <| lsskip (hg := by rw [hb_2]; kernel_rfl) 31 <| lsskip (hg := by rw [hb_2]; kernel_rfl) 32 <| lsskip (hg := by rw [hb_2]; kernel_rfl) 33 <| lspickf (.bool false) (by rw [hb_2]; kernel_rfl) <| ls_nil (then_normal ?_)
      exact ⟨(gd (Ap [] 5)),(.bool false),by kernel_rfl,HA_4,H⟩
     ·rintro _ w_5 ⟨D_3,x34,rfl,HA_5,H⟩
      refine lsmove x34 <| ls_and [(),(),(),(),(),(),(),()] (fun K a w => ∃ (D_4 : Nat → Value) (x43 : Value),a = (mk ([x0,ud,(.slice none 0 0),x3,x4,x5,x26,x4,x0,x9,x10,(D 6),(D 7),x0,x4,x15,x16,x17,x18,x19,x19] ++ (Ad D_2 0 5 ([x26,x26,x26] ++ (Ad D_3 0 5 ([x34,x34] ++ (Ad D_4 0 7 ([x43] ++ (Ad D 39 22 [ud]))))))))) ∧ At w0 w h_4 ∧ K x43) H (fun hb_1 H => ?_) (fun hb_1 H => ?_) ?_
      ·refine lsmove (hg := by rw [hb_1]; kernel_rfl) x0 <| lsmove (hg := by rw [hb_1]; kernel_rfl) x4 <| lsp (hg := by rw [hb_1]; kernel_rfl) 38 (padd H) fun x38 H => lsp (hg := by rw [hb_1]; kernel_rfl) 39 (pixs underlying32 sizeOf31 H) fun x39 H => lsp (hg := by rw [hb_1]; kernel_rfl) 40 (poff underlying31 rfl sizeOf21 rfl H) fun x40 H => lsy (hg := by rw [hb_1]; kernel_rfl) 41 HA_5 (yld isAgg21 H) fun x41 H => lsp (hg := by rw [hb_1]; kernel_rfl) 42 (psEq H) fun x42 H => lspickt x42 (by rw [hb_1]; kernel_rfl) <| ls_nil (then_normal ?_)
       exact ⟨(gd ([x0,x4,x38,x39,x40,x41,x42])),x42,by kernel_rfl,HA_5,H⟩
      ·refine lsskip (hg := by rw [hb_1]; kernel_rfl) 36 <| lsskip (hg := by rw [hb_1]; kernel_rfl) 37 <| lsskip (hg := by rw [hb_1]; kernel_rfl) 38 <| lsskip (hg := by rw [hb_1]; kernel_rfl) 39 <| lsskip (hg := by rw [hb_1]; kernel_rfl) 40 <| lsskip (hg := by rw [hb_1]; kernel_rfl) 41 <| lsskip (hg := by rw [hb_1]; kernel_rfl) 42 <| lspickf (.bool false) (by rw [hb_1]; kernel_rfl) <| ls_nil (then_normal ?_)
       exact ⟨(gd (Ap [] 7)),(.bool false),by kernel_rfl,HA_5,H⟩
      ·rintro _ w_6 ⟨D_4,x43,rfl,HA_6,H⟩
       refine ls_nil (then_normal ?_)
       refine freq (mk ([x0,ud,(.slice none 0 0),x3,x4,x5,x26,x4,x0,x9,x10,(D 6),(D 7),x0,x4,x15,x16,x17,x18,x19,x19] ++ (Ad D_2 0 5 ([x26,x26,x26] ++ (Ad D_3 0 5 ([x34,x34] ++ (Ad D_4 0 7 ([x43] ++ (Ad D 39 22 [ud]))))))))) <| wp_if rfl H (fun H => ?_) (fun H => ?_)
       ·refine wp_seq <| lwpmx (Nat.testBit 384) (Nat.testBit 0) (Nat.testBit 573) [0,0,0,0,8,28,60,126,255,511] (Nat.testBit 0) (fun h' => h' = h_4) [0,1,2,3,4,5,6,7,8,9] HA_6 rfl fun w_7 HA_7 => lmal x3 44 rfl (almove) <| lmf 45 rfl (of_eq (yldn isAgg31 sizeOf31 H)) fun x45 H => lmal x0 46 rfl (almove) <| lmal x4 47 rfl (almove) <| lmp 48 rfl (padd H) fun x48 H => lmp 49 rfl (pixs underlying32 sizeOf31 H) fun x49 H => lmf 50 rfl (of_eq (yldn isAgg31 sizeOf31 H)) fun x50 H => lmd 51 rfl HA_7 (dslit (zc := #[.int .i32 0, .int .i64 0, .int .i64 0, .int .i64 0]) underlying32 sizeOf31 (by decide) (.inr ⟨by decide,_,zeroValue31,(by kernel_rfl)⟩) H) fun x51 h_5 w_8 H HA_8 => lmd 52 rfl HA_8 (dapp (z := #[.int .i32 0, .int .i64 0, .int .i64 0, .int .i64 0]) underlying32 underlying32 (.inl ⟨_,rfl⟩) typeInfo31 sizeOf31 zeroValue31 H) fun x52 h_6 w_9 H HA_9 => lmal x52 3 rfl (alassign) <| lm_nil ?_
        refine then_normal <| freq (mk ([x0,ud,(.slice none 0 0),x52,x4,x5,x26,x4,x0,x9,x10,(D 6),(D 7),x0,x4,x15,x16,x17,x18,x19,x19] ++ (Ad D_2 0 5 ([x26,x26,x26] ++ (Ad D_3 0 5 ([x34,x34] ++ (Ad D_4 0 7 ([x43,x3,x45,x0,x4,x48,x49,x50,x51,x52] ++ (Ad D 48 13 [ud]))))))))) <| wp_seq (lwp_list ?_)
        refine lsmove x4 <| lsp 54 (padd H) fun x54 H => lsassign x54 <| ls_nil (then_normal ?_)
        refine freq (mk ([x0,ud,(.slice none 0 0),x52,x54,x5,x26,x4,x0,x9,x10,(D 6),(D 7),x0,x4,x15,x16,x17,x18,x19,x19] ++ (Ad D_2 0 5 ([x26,x26,x26] ++ (Ad D_3 0 5 ([x34,x34] ++ (Ad D_4 0 7 ([x43,x3,x45,x0,x4,x48,x49,x50,x51,x52,x4,x54] ++ (Ad D 50 11 [ud]))))))))) <| wp_exit <| then_exit <| block_exit <| ⟨(gd ([x5,x26,x0,x4,x15,x16,x17,x18,x19,x19] ++ (Ad D_2 0 5 ([x26,x26,x26] ++ (Ad D_3 0 5 ([x34,x34] ++ (Ad D_4 0 7 ([x43,x3,x45,x0,x4,x48,x49,x50,x51,x52,x4,x54] ++ (Ad D 50 11 []))))))))),x52,x54,h_6,by kernel_rfl,HA_9,H⟩
       ·refine wp_skip <| then_normal <| freq (mk ([x0,ud,(.slice none 0 0),x3,x4,x5,x26,x4,x0,x9,x10,(D 6),(D 7),x0,x4,x15,x16,x17,x18,x19,x19] ++ (Ad D_2 0 5 ([x26,x26,x26] ++ (Ad D_3 0 5 ([x34,x34] ++ (Ad D_4 0 7 ([x43] ++ (Ad D 39 22 [ud]))))))))) <| wp_seq <| wp_seq (lwp_list ?_)
        refine lsmove x26 <| lsmove x26 <| ls_or [(),(),(),()] (fun K a w => ∃ (D_5 : Nat → Value) (x60 : Value),a = (mk ([x0,ud,(.slice none 0 0),x3,x4,x5,x26,x4,x0,x9,x10,(D 6),(D 7),x0,x4,x15,x16,x17,x18,x19,x19] ++ (Ad D_2 0 5 ([x26,x26,x26] ++ (Ad D_3 0 5 ([x34,x34] ++ (Ad D_4 0 7 ([x43] ++ (Ad D 39 11 ([x26,x26,(D_5 0),(D_5 1),(D_5 2),x60] ++ (Ad D 56 5 [ud]))))))))))) ∧ At w0 w h_4 ∧ K x60) H (fun hb H => ?_) (fun hb H => ?_) ?_
        ·refine lsp (hg := by rw [hb]; kernel_rfl) 57 (poff underlying31 rfl sizeOf21 rfl H) fun x57 H => lsy (hg := by rw [hb]; kernel_rfl) 58 HA_6 (yld isAgg21 H) fun x58 H => lsp (hg := by rw [hb]; kernel_rfl) 59 (psEq H) fun x59 H => lspickf x59 (by rw [hb]; kernel_rfl) <| ls_nil (then_normal ?_)
         exact ⟨(gd ([x57,x58,x59])),x59,by kernel_rfl,HA_6,H⟩
        ·refine lsskip (hg := by rw [hb]; kernel_rfl) 57 <| lsskip (hg := by rw [hb]; kernel_rfl) 58 <| lsskip (hg := by rw [hb]; kernel_rfl) 59 <| lspickt (.bool true) (by rw [hb]; kernel_rfl) <| ls_nil (then_normal ?_)
         exact ⟨(gd ([ud,ud,ud])),(.bool true),by kernel_rfl,HA_6,H⟩
        ·rintro _ w_10 ⟨D_5,x60,rfl,HA_10,H⟩
         refine ls_nil (then_normal ?_)
         refine freq (mk ([x0,ud,(.slice none 0 0),x3,x4,x5,x26,x4,x0,x9,x10,(D 6),(D 7),x0,x4,x15,x16,x17,x18,x19,x19] ++ (Ad D_2 0 5 ([x26,x26,x26] ++ (Ad D_3 0 5 ([x34,x34] ++ (Ad D_4 0 7 ([x43] ++ (Ad D 39 11 ([x26,x26,(D_5 0),(D_5 1),(D_5 2),x60] ++ (Ad D 56 5 [ud]))))))))))) <| wp_join (fun a w => ∃ (D_6 : Nat → Value) (h_7 : Heap),a = (mk ([x0,ud,(.slice none 0 0),x3,x4,x5,x26,x4,x0,x9,x10,(D 6),(D 7),x0,x4,x15,x16,x17,x18,x19,x19] ++ (Ad D_2 0 5 ([x26,x26,x26] ++ (Ad D_3 0 5 ([x34,x34] ++ (Ad D_4 0 7 ([x43] ++ (Ad D 39 11 ([x26,x26,(D_5 0),(D_5 1),(D_5 2),x60,(D_6 0)] ++ (Ad D 57 4 [ud]))))))))))) ∧ At w0 w h_7 ∧ betonyref24_whole_j3 (fun x3' x4' h' => I (x3', x4') h' ∧ m (x3', x4') h' < m (x3,x4) h) x3 x4 x5 h_7) ?_ ?_
         ·refine wp_if rfl H (fun H => ?_) (fun H => ?_)
          ·refine lwp_list <| lsp 61 (poff underlying31 rfl sizeOf21 rfl H) fun x61 H => lsdn HA_10 (dstw sizeOf21 H) fun _ h_10 w_14 H HA_14 => ls_nil <| ⟨(gd ([x61])),h_10,by kernel_rfl,HA_14,H⟩
          ·refine wp_skip <| ⟨(gd ([(D 56)])),h_4,by kernel_rfl,HA_10,H⟩
         ·rintro _ w_11 ⟨D_6,h_7,rfl,HA_11,H⟩
          unfold betonyref24_whole_j3 at H
          refine then_normal <| freq (mk ([x0,ud,(.slice none 0 0),x3,x4,x5,x26,x4,x0,x9,x10,(D 6),(D 7),x0,x4,x15,x16,x17,x18,x19,x19] ++ (Ad D_2 0 5 ([x26,x26,x26] ++ (Ad D_3 0 5 ([x34,x34] ++ (Ad D_4 0 7 ([x43] ++ (Ad D 39 11 ([x26,x26,(D_5 0),(D_5 1),(D_5 2),x60,(D_6 0)] ++ (Ad D 57 4 [ud]))))))))))) <| lwp_list <| lsmove x3 <| lsy 63 HA_11 (yldn isAgg31 sizeOf31 H) fun x63 H => lsd 64 HA_11 (dslit (zc := #[.int .i32 0, .int .i64 0, .int .i64 0, .int .i64 0]) underlying32 sizeOf31 (by decide) (.inr ⟨by decide,_,zeroValue31,(by kernel_rfl)⟩) H) fun x64 h_8 w_12 H HA_12 => lsd 65 HA_12 (dapp (z := #[.int .i32 0, .int .i64 0, .int .i64 0, .int .i64 0]) underlying32 underlying32 (.inl ⟨_,rfl⟩) typeInfo31 sizeOf31 zeroValue31 H) fun x65 h_9 w_13 H HA_13 => lsassign x65 <| ls_nil <| block_normal <| ⟨(gd ([x5,x26,x0,x4,x15,x16,x17,x18,x19,x19] ++ (Ad D_2 0 5 ([x26,x26,x26] ++ (Ad D_3 0 5 ([x34,x34] ++ (Ad D_4 0 7 ([x43] ++ (Ad D 39 11 [x26,x26,(D_5 0),(D_5 1),(D_5 2),x60,(D_6 0),x3,x63,x64,x65]))))))))),x65,x4,h_9,by kernel_rfl,HA_13,H⟩
   ·rintro _ w_1 ⟨D_1,x3_1,x4_1,h_1,rfl,HA_1,H⟩
    unfold betonyref24_whole_j2 at H
    refine then_normal <| freq (mk ([x0,ud,(.slice none 0 0),x3_1,x4_1,(D_1 0),(D_1 1),x4,x0,x9,x10,(D 6),(D 7)] ++ (Ad D_1 2 53 [ud]))) <| lwp_list <| lsmove x4_1 <| lsp 12 (padd H) fun x12 H => lsassign x12 <| ls_nil <| ⟨⟨(gd ([(D_1 0),(D_1 1),x4,x0,x9,x10,x4_1,x12] ++ (Ad D_1 2 53 []))),x3_1,x12,h_1,by kernel_rfl,HA_1,H.1⟩, loop_lt HA_1.heap HA.heap (by kernel_rfl) (by kernel_rfl) H.2⟩
  ·refine wp_exit <| then_exit <| then_exit <| block_exit <| then_normal <| freq (mk ([x0,ud,(.slice none 0 0),x3,x4,(D 0),(D 1),x4,x0,x9,x10] ++ (Ad D 6 55 [ud]))) <| wp_seq (lwp_list ?_)
   refine lsmove x3 <| lsassign x3 <| ls_nil (then_normal ?_)
   refine freq (mk ([x0,ud,x3,x3,x4,(D 0),(D 1),x4,x0,x9,x10] ++ (Ad D 6 55 [x3]))) <| wp_ret <| end1 (results89) (by kernel_rfl) (by kernel_rfl) HA H _ (.inr rfl)

end Go.Proofs.YtmhhjpfkipficaaDoor


end

section
/- The shallow reading of one function, and that the function does it. Written by a program. -/
set_option linter.unusedVariables false
namespace Go.Proofs.YtmhhjpfkipficaaDoor
open Go Go.HW _root_.Go.Proofs.Tryd

def betonyref24_Screen_set_S (x0 x1 x2 : Value) (h : Heap) (R : Value → Heap → Prop) : Prop :=
  sSlit h #[] [] 32 0 fun x7 h => 
  sNil x0 fun x9 =>
  sOff x9 2 fun x10 =>
  sLd h x10 fun x11 =>
  sApp h x7 x11 #[.slice none 0 0] 32 24 fun x12 h_1 => 
  betonyref24_whole_c x2 h_1 fun x16 h_2 => 
  sIxS x12 x1 1 fun x17 =>
  sSt h_2 x17 x16 fun h_3 => 
  sNil x0 fun x20 =>
  sOff x20 2 fun x21 =>
  sSt h_3 x21 x12 fun h_4 => 
  R unit h_4
set_option maxRecDepth 100000 in
theorem betonyref24_Screen_set_runs {x0 x1 x2 : Value} {h : Heap} {R : Value → Heap → Prop} (H : betonyref24_Screen_set_S x0 x1 x2 h R) : betonyref24_Screen_set_c x0 x1 x2 h R := by
 unfold betonyref24_Screen_set_S at H
 refine runsof (b := (mk (Ap [x0,x1,x2] 19))) call79 func79 rfl fun w0 HA => wp_seq (lwp_list ?_)
 refine lsd 7 HA (dslit (zc := #[]) underlying26 sizeOf32 (by decide) (.inl ⟨(by kernel_rfl),(by kernel_rfl)⟩) H) fun x7 h w H HA => lsmove x0 <| lsp 9 (pnil H) fun x9 H => lsp 10 (poff underlying75 rfl sizeOf26 rfl H) fun x10 H => lsy 11 HA (yld isAgg26 H) fun x11 H => lsd 12 HA (dapp (z := #[.slice none 0 0]) underlying26 underlying26 (.inl ⟨_,rfl⟩) typeInfo32 sizeOf32 zeroValue32 H) fun x12 h_1 w_1 H HA_1 => lsassign x12 <| ls_nil (then_normal ?_)
 refine freq (mk (Ap [x0,x1,x2,ud,ud,ud,x12,x7,x0,x9,x10,x11,x12] 9)) <| wp_seq (lwp_list ?_)
 refine lsmove x12 <| lsmove x1 <| lsmove x2 <| lsd 16 HA_1 (dcall H) fun x16 h_2 w_2 H HA_2 => lsp 17 (pixs underlying26 sizeOf32 H) fun x17 H => lsdn HA_2 (dstw sizeOf32 H) fun _ h_3 w_3 H HA_3 => ls_nil (then_normal ?_)
 refine freq (mk (Ap [x0,x1,x2,ud,ud,ud,x12,x7,x0,x9,x10,x11,x12,x12,x1,x2,x16,x17] 4)) <| lwp_list <| lsmove x0 <| lsmove x12 <| lsp 20 (pnil H) fun x20 H => lsp 21 (poff underlying75 rfl sizeOf26 rfl H) fun x21 H => lsdn HA_3 (dstw sizeOf26 H) fun _ h_4 w_4 H HA_4 => ls_nil <| end0 (results79) (by kernel_rfl) HA_4 H _ (.inl rfl)

end Go.Proofs.YtmhhjpfkipficaaDoor


end

section
/- The shallow reading of one function, and that the function does it. Written by a program. -/
set_option linter.unusedVariables false
namespace Go.Proofs.YtmhhjpfkipficaaDoor
open Go Go.HW _root_.Go.Proofs.Tryd

def betonyref24_cat_S (x0 x1 x2 : Value) (h : Heap) (R : Value → Heap → Prop) : Prop :=
  sSlit h #[] [] 31 0 fun x7 h => 
  sApp h x7 x0 #[.int .i32 0, .int .i64 0, .int .i64 0, .int .i64 0] 31 32 fun x9 h_1 => 
  sApp h_1 x9 x1 #[.int .i32 0, .int .i64 0, .int .i64 0, .int .i64 0] 31 32 fun x11 h_2 => 
  sApp h_2 x11 x2 #[.int .i32 0, .int .i64 0, .int .i64 0, .int .i64 0] 31 32 fun x13 h_3 => 
  R x13 h_3
set_option maxRecDepth 100000 in
theorem betonyref24_cat_runs {x0 x1 x2 : Value} {h : Heap} {R : Value → Heap → Prop} (H : betonyref24_cat_S x0 x1 x2 h R) : betonyref24_cat_c x0 x1 x2 h R := by
 unfold betonyref24_cat_S at H
 refine runsof (b := (mk (Ap [x0,x1,x2] 11))) call80 func80 rfl fun w0 HA => wp_seq (lwp_list ?_)
 refine lsassign (.slice none 0 0) <| ls_nil (then_normal ?_)
 refine freq (mk (Ap [x0,x1,x2,ud,ud,ud,(.slice none 0 0)] 7)) <| wp_seq (lwp_list ?_)
 refine lsd 7 HA (dslit (zc := #[]) underlying32 sizeOf31 (by decide) (.inl ⟨(by kernel_rfl),(by kernel_rfl)⟩) H) fun x7 h w H HA => lsmove x0 <| lsd 9 HA (dapp (z := #[.int .i32 0, .int .i64 0, .int .i64 0, .int .i64 0]) underlying32 underlying32 (.inl ⟨_,rfl⟩) typeInfo31 sizeOf31 zeroValue31 H) fun x9 h_1 w_1 H HA_1 => lsmove x1 <| lsd 11 HA_1 (dapp (z := #[.int .i32 0, .int .i64 0, .int .i64 0, .int .i64 0]) underlying32 underlying32 (.inl ⟨_,rfl⟩) typeInfo31 sizeOf31 zeroValue31 H) fun x11 h_2 w_2 H HA_2 => lsmove x2 <| lsd 13 HA_2 (dapp (z := #[.int .i32 0, .int .i64 0, .int .i64 0, .int .i64 0]) underlying32 underlying32 (.inl ⟨_,rfl⟩) typeInfo31 sizeOf31 zeroValue31 H) fun x13 h_3 w_3 H HA_3 => lsassign x13 <| ls_nil (then_normal ?_)
 refine freq (mk [x0,x1,x2,ud,ud,ud,x13,x7,x0,x9,x1,x11,x2,x13]) <| wp_ret <| end1 (results80) (by kernel_rfl) (by kernel_rfl) HA_3 H _ (.inr rfl)

end Go.Proofs.YtmhhjpfkipficaaDoor


end

section
/- The shallow reading of one function, and that the function does it. Written by a program. -/
set_option linter.unusedVariables false
namespace Go.Proofs.YtmhhjpfkipficaaDoor
open Go Go.HW _root_.Go.Proofs.Tryd

def betonyref24_Screen_move_j3 (next : Value → Value → Heap → Prop) (x10 x8_2 : Value) (h_5 : Heap) : Prop :=
  sAdd .i64 x10 (.int .i64 1) fun x48 =>
  next x8_2 x48 h_5
def betonyref24_Screen_move_l4 (R : Value → Heap → Prop) (x0 x1 x21 x3 : Value) (next : Value → Value → Heap → Prop) (x8_3 x11 : Value) (h_8 : Heap) : Prop :=
  sLt x11 x21 fun x83 =>
  sAnd x83 (fun k_3 =>
  k_3 x3) fun x86 =>
  sIf x86 (sNil x0 fun x92 =>
  sOff x92 0 fun x93 =>
  sLd h_8 x93 fun x94 =>
  betonyref24_Screen_blanks_c x0 x94 h_8 fun x95 h_9 => 
  sSlit h_9 #[.slice none 0 0] [(0, 1, x95)] 32 1 fun x96 h_10 => 
  sApp h_10 x8_3 x96 #[.slice none 0 0] 32 24 fun x97 h_11 => 
  sAdd .i64 x11 (.int .i64 1) fun x88 =>
  next x97 x88 h_11) (sSlit h_8 #[] [] 32 0 fun x98 h_12 => 
  sNil x0 fun x100 =>
  sOff x100 2 fun x101 =>
  sLd h_12 x101 fun x102 =>
  sSl x102 none (some x1) 1 fun x104 =>
  sApp h_12 x98 x104 #[.slice none 0 0] 32 24 fun x105 h_13 => 
  sApp h_13 x105 x8_3 #[.slice none 0 0] 32 24 fun x107 h_14 => 
  sNil x0 fun x111 =>
  sOff x111 2 fun x112 =>
  sLd h_14 x112 fun x113 =>
  sNil x0 fun x115 =>
  sOff x115 13 fun x116 =>
  sLd h_14 x116 fun x117 =>
  sAdd .i64 x117 (.int .i64 1) fun x118 =>
  sSl x113 (some x118) none 1 fun x119 =>
  sApp h_14 x107 x119 #[.slice none 0 0] 32 24 fun x120 h_15 => 
  sNil x0 fun x121 =>
  sOff x121 2 fun x122 =>
  sSt h_15 x122 x120 fun h_16 => 
  R unit h_16)
def betonyref24_Screen_move_l2 (R : Value → Heap → Prop) (x0 x1 x21 x3 : Value) (next : Value → Value → Heap → Prop) (x8_1 x10 : Value) (h_4 : Heap) : Prop :=
  sNil x0 fun x43 =>
  sOff x43 13 fun x44 =>
  sLd h_4 x44 fun x45 =>
  sLe x10 x45 fun x46 =>
  sIf x46 (sAnd x3 (fun k_2 =>
  sAdd .i64 x1 x21 fun x54 =>
  sGe x10 x54 fun x55 =>
  k_2 x55) fun x56 =>
  sOr x56 (fun k =>
  sNot x3 fun x59 =>
  sAnd x59 (fun k_1 =>
  sNil x0 fun x63 =>
  sOff x63 13 fun x64 =>
  sLd h_4 x64 fun x65 =>
  sSub .i64 x65 x21 fun x67 =>
  sLe x10 x67 fun x68 =>
  k_1 x68) fun x69 =>
  k x69) fun x70 =>
  sIf x70 (sNil x0 fun x73 =>
  sOff x73 2 fun x74 =>
  sLd h_4 x74 fun x75 =>
  sIxS x75 x10 1 fun x77 =>
  sLd h_4 x77 fun x78 =>
  sSlit h_4 #[.slice none 0 0] [(0, 1, x78)] 32 1 fun x79 h_6 => 
  sApp h_6 x8_1 x79 #[.slice none 0 0] 32 24 fun x80 h_7 => 
  betonyref24_Screen_move_j3 next x10 x80 h_7) (betonyref24_Screen_move_j3 next x10 x8_1 h_4)) (sLoop (S := Value × Value) (fun nxt s h => betonyref24_Screen_move_l4 R x0 x1 x21 x3 (fun x8_3' x11' h => nxt (x8_3', x11') h) s.1 s.2 h) (x8_1, (.int .i64 0)) h_4)
def betonyref24_Screen_move_l1 (R : Value → Heap → Prop) (x0 x1 x21 x3 : Value) (next : Value → Value → Heap → Prop) (x8 x9 : Value) (h : Heap) : Prop :=
  sLt x9 x21 fun x24 =>
  sAnd x24 (fun k_4 =>
  sNot x3 fun x27 =>
  k_4 x27) fun x28 =>
  sIf x28 (sNil x0 fun x34 =>
  sOff x34 0 fun x35 =>
  sLd h x35 fun x36 =>
  betonyref24_Screen_blanks_c x0 x36 h fun x37 h_1 => 
  sSlit h_1 #[.slice none 0 0] [(0, 1, x37)] 32 1 fun x38 h_2 => 
  sApp h_2 x8 x38 #[.slice none 0 0] 32 24 fun x39 h_3 => 
  sAdd .i64 x9 (.int .i64 1) fun x30 =>
  next x39 x30 h_3) (sLoop (S := Value × Value) (fun nxt s h => betonyref24_Screen_move_l2 R x0 x1 x21 x3 (fun x8_1' x10' h => nxt (x8_1', x10') h) s.1 s.2 h) (x8, x1) h)
def betonyref24_Screen_move_S (x0 x1 x2 x3 : Value) (h : Heap) (R : Value → Heap → Prop) : Prop :=
  sNil x0 fun x15 =>
  sOff x15 13 fun x16 =>
  sLd h x16 fun x17 =>
  sSub .i64 x17 x1 fun x19 =>
  sAdd .i64 x19 (.int .i64 1) fun x20 =>
  sMin x2 x20 fun x21 =>
  sLoop (S := Value × Value) (fun nxt s h => betonyref24_Screen_move_l1 R x0 x1 x21 x3 (fun x8' x9' h => nxt (x8', x9') h) s.1 s.2 h) ((.slice none 0 0), (.int .i64 0)) h
set_option maxRecDepth 100000 in
theorem betonyref24_Screen_move_runs {x0 x1 x2 x3 : Value} {h : Heap} {R : Value → Heap → Prop} (H : betonyref24_Screen_move_S x0 x1 x2 x3 h R) : betonyref24_Screen_move_c x0 x1 x2 x3 h R := by
 unfold betonyref24_Screen_move_S at H
 refine runsof (b := (mk (Ap [x0,x1,x2,x3] 119))) call82 func82 rfl fun w0 HA => wp_seq (lwp_list ?_)
 refine lsmove x2 <| lsmove x0 <| lsp 15 (pnil H) fun x15 H => lsp 16 (poff underlying75 rfl sizeOf3 rfl H) fun x16 H => lsy 17 HA (yld isAgg3 H) fun x17 H => lsmove x1 <| lsp 19 (psub H) fun x19 H => lsp 20 (padd H) fun x20 H => lsp 21 (pmin H) fun x21 H => lsassign x21 <| ls_nil (then_normal ?_)
 refine freq (mk (Aq [x0,x1,x21,x3] 9 (Ap [x2,x0,x15,x16,x17,x1,x19,x20,x21] 101))) <| wp_seq (lwp_list ?_)
 refine lsassign (.slice none 0 0) <| ls_nil (then_normal ?_)
 refine freq (mk (Ap [x0,x1,x21,x3,ud,ud,ud,ud,(.slice none 0 0),ud,ud,ud,ud,x2,x0,x15,x16,x17,x1,x19,x20,x21] 101)) <| wp_seq <| wp_seq (lwp_list ?_)
 refine lsassign (.int .i64 0) <| ls_nil (then_normal ?_)
 refine freq (mk (Ap [x0,x1,x21,x3,ud,ud,ud,ud,(.slice none 0 0),(.int .i64 0),ud,ud,ud,x2,x0,x15,x16,x17,x1,x19,x20,x21] 101)) <| wp_block ?_
 obtain ⟨I,m,H0,HB⟩ := H
 refine wp_loop (fun a w => ∃ (D : Nat → Value) (x8 x9 : Value) (h : Heap),a = (mk ([x0,x1,x21,x3,ud,ud,ud,ud,x8,x9,ud,ud,ud,x2,x0,x15,x16,x17,x1,x19,x20,x21] ++ (Ad D 0 18 (Ap [] 83)))) ∧ At w0 w h ∧ I (x8,x9) h) (fun a w => m ((a.tmps.getD 8 ud),(a.tmps.getD 9 ud)) w.heap) ?_ ?_
 ·exact ⟨(gd (Ap [] 18)),(.slice none 0 0),(.int .i64 0),h,by kernel_rfl,HA,H0⟩
 ·rintro _ w ⟨D,x8,x9,h,rfl,HA,HI⟩
  have H : betonyref24_Screen_move_l1 R x0 x1 x21 x3 (fun x8' x9' h' => I (x8', x9') h' ∧ m (x8', x9') h' < m (x8,x9) h) x8 x9 h := HB (x8,x9) h HI
  clear HB H0 HI
  unfold betonyref24_Screen_move_l1 at H
  refine wp_seq <| wp_seq (lwp_list ?_)
  refine lsmove x9 <| lsmove x21 <| lsp 24 (psLt H) fun x24 H => lsmove x24 <| ls_and [(),(),()] (fun K a w => ∃ (D_1 : Nat → Value) (x28 : Value),a = (mk ([x0,x1,x21,x3,ud,ud,ud,ud,x8,x9,ud,ud,ud,x2,x0,x15,x16,x17,x1,x19,x20,x21,x9,x21,x24,x24,(D_1 0),(D_1 1),x28] ++ (Ad D 7 11 (Ap [] 83)))) ∧ At w0 w h ∧ K x28) H (fun hb_4 H => ?_) (fun hb_4 H => ?_) ?_
  ·refine lsmove (hg := by rw [hb_4]; kernel_rfl) x3 <| lsp (hg := by rw [hb_4]; kernel_rfl) 27 (pnot H) fun x27 H => lspickt x27 (by rw [hb_4]; kernel_rfl) <| ls_nil (then_normal ?_)
   exact ⟨(gd ([x3,x27])),x27,by kernel_rfl,HA,H⟩
  ·refine lsskip (hg := by rw [hb_4]; kernel_rfl) 26 <| lsskip (hg := by rw [hb_4]; kernel_rfl) 27 <| lspickf (.bool false) (by rw [hb_4]; kernel_rfl) <| ls_nil (then_normal ?_)
   exact ⟨(gd ([ud,ud])),(.bool false),by kernel_rfl,HA,H⟩
  ·rintro _ w_1 ⟨D_1,x28,rfl,HA_1,H⟩
   refine ls_nil (then_normal ?_)
   refine freq (mk ([x0,x1,x21,x3,ud,ud,ud,ud,x8,x9,ud,ud,ud,x2,x0,x15,x16,x17,x1,x19,x20,x21,x9,x21,x24,x24,(D_1 0),(D_1 1),x28] ++ (Ad D 7 11 (Ap [] 83)))) <| wp_if rfl H (fun H => ?_) (fun H => ?_)
   ·refine wp_skip <| then_normal <| freq (mk ([x0,x1,x21,x3,ud,ud,ud,ud,x8,x9,ud,ud,ud,x2,x0,x15,x16,x17,x1,x19,x20,x21,x9,x21,x24,x24,(D_1 0),(D_1 1),x28] ++ (Ad D 7 11 (Ap [] 83)))) <| wp_seq <| wp_block <| lwp_list <| lsmove x8 <| lsmove x0 <| lsmove x0 <| lsp 34 (pnil H) fun x34 H => lsp 35 (poff underlying75 rfl sizeOf3 rfl H) fun x35 H => lsy 36 HA_1 (yld isAgg3 H) fun x36 H => lsd 37 HA_1 (dcall H) fun x37 h_1 w_2 H HA_2 => lsd 38 HA_2 (dslit (zc := #[.slice none 0 0]) underlying26 sizeOf32 (by decide) (.inr ⟨by decide,_,zeroValue32,(by kernel_rfl)⟩) H) (fun x38 h_2 w_3 H HA_3 => ?_)
    refine lsd 39 HA_3 (dapp (z := #[.slice none 0 0]) underlying26 underlying26 (.inl ⟨_,rfl⟩) typeInfo32 sizeOf32 zeroValue32 H) fun x39 h_3 w_4 H HA_4 => lsassign x39 <| ls_nil <| block_normal <| then_normal <| freq (mk (Ap [x0,x1,x21,x3,ud,ud,ud,ud,x39,x9,ud,ud,ud,x2,x0,x15,x16,x17,x1,x19,x20,x21,x9,x21,x24,x24,(D_1 0),(D_1 1),x28,(D 7),(D 8),x8,x0,x0,x34,x35,x36,x37,x38,x39] 83)) <| lwp_list <| lsmove x9 <| lsp 30 (padd H) fun x30 H => lsassign x30 <| ls_nil <| ⟨⟨(gd ([x9,x21,x24,x24,(D_1 0),(D_1 1),x28,x9,x30,x8,x0,x0,x34,x35,x36,x37,x38,x39])),x39,x30,h_3,by kernel_rfl,HA_4,H.1⟩, loop_lt HA_4.heap HA.heap (by kernel_rfl) (by kernel_rfl) H.2⟩
   ·refine wp_exit <| then_exit <| then_exit <| block_exit <| then_normal <| freq (mk ([x0,x1,x21,x3,ud,ud,ud,ud,x8,x9,ud,ud,ud,x2,x0,x15,x16,x17,x1,x19,x20,x21,x9,x21,x24,x24,(D_1 0),(D_1 1),x28] ++ (Ad D 7 11 (Ap [] 83)))) <| wp_seq <| wp_seq (lwp_list ?_)
    refine lsmove x1 <| lsassign x1 <| ls_nil (then_normal ?_)
    refine freq (mk ([x0,x1,x21,x3,ud,ud,ud,ud,x8,x9,x1,ud,ud,x2,x0,x15,x16,x17,x1,x19,x20,x21,x9,x21,x24,x24,(D_1 0),(D_1 1),x28] ++ (Ad D 7 11 (Ap [x1] 82)))) <| wp_block ?_
    obtain ⟨I_1,m_1,H0,HB⟩ := H
    refine wp_loop (fun a w => ∃ (D_2 : Nat → Value) (x8_1 x10 : Value) (h_4 : Heap),a = (mk ([x0,x1,x21,x3,ud,ud,ud,ud,x8_1,x9,x10,ud,ud,x2,x0,x15,x16,x17,x1,x19,x20,x21,x9,x21,x24,x24,(D_1 0),(D_1 1),x28] ++ (Ad D 7 11 ([x1] ++ (Ad D_2 0 40 (Ap [] 42)))))) ∧ At w0 w h_4 ∧ I_1 (x8_1,x10) h_4) (fun a w => m_1 ((a.tmps.getD 8 ud),(a.tmps.getD 10 ud)) w.heap) ?_ ?_
    ·exact ⟨(gd (Ap [] 40)),x8,x1,h,by kernel_rfl,HA_1,H0⟩
    ·rintro _ w_5 ⟨D_2,x8_1,x10,h_4,rfl,HA_5,HI⟩
     have H : betonyref24_Screen_move_l2 R x0 x1 x21 x3 (fun x8_1' x10' h' => I_1 (x8_1', x10') h' ∧ m_1 (x8_1', x10') h' < m_1 (x8_1,x10) h_4) x8_1 x10 h_4 := HB (x8_1,x10) h_4 HI
     clear HB H0 HI
     unfold betonyref24_Screen_move_l2 at H
     refine wp_seq <| wp_seq (lwp_list ?_)
     refine lsmove x10 <| lsmove x0 <| lsp 43 (pnil H) fun x43 H => lsp 44 (poff underlying75 rfl sizeOf3 rfl H) fun x44 H => lsy 45 HA_5 (yld isAgg3 H) fun x45 H => lsp 46 (psLe H) fun x46 H => ls_nil (then_normal ?_)
     refine freq (mk ([x0,x1,x21,x3,ud,ud,ud,ud,x8_1,x9,x10,ud,ud,x2,x0,x15,x16,x17,x1,x19,x20,x21,x9,x21,x24,x24,(D_1 0),(D_1 1),x28] ++ (Ad D 7 11 ([x1,x10,x0,x43,x44,x45,x46] ++ (Ad D_2 6 34 (Ap [] 42)))))) <| wp_if rfl H (fun H => ?_) (fun H => ?_)
     ·refine wp_skip <| then_normal <| freq (mk ([x0,x1,x21,x3,ud,ud,ud,ud,x8_1,x9,x10,ud,ud,x2,x0,x15,x16,x17,x1,x19,x20,x21,x9,x21,x24,x24,(D_1 0),(D_1 1),x28] ++ (Ad D 7 11 ([x1,x10,x0,x43,x44,x45,x46] ++ (Ad D_2 6 34 (Ap [] 42)))))) <| wp_seq <| wp_join (fun a w => ∃ (D_3 : Nat → Value) (x8_2 : Value) (h_5 : Heap),a = (mk ([x0,x1,x21,x3,ud,ud,ud,ud,x8_2,x9,x10,ud,ud,x2,x0,x15,x16,x17,x1,x19,x20,x21,x9,x21,x24,x24,(D_1 0),(D_1 1),x28] ++ (Ad D 7 11 ([x1,x10,x0,x43,x44,x45,x46,(D_2 6),(D_2 7)] ++ (Ad D_3 0 32 (Ap [] 42)))))) ∧ At w0 w h_5 ∧ betonyref24_Screen_move_j3 (fun x8_1' x10' h' => I_1 (x8_1', x10') h' ∧ m_1 (x8_1', x10') h' < m_1 (x8_1,x10) h_4) x10 x8_2 h_5) ?_ ?_
      ·refine wp_block <| wp_seq (lwp_list ?_)
       refine lsmove x3 <| lsmove x3 <| ls_and [(),(),(),(),(),()] (fun K a w => ∃ (D_4 : Nat → Value) (x56 : Value),a = (mk ([x0,x1,x21,x3,ud,ud,ud,ud,x8_1,x9,x10,ud,ud,x2,x0,x15,x16,x17,x1,x19,x20,x21,x9,x21,x24,x24,(D_1 0),(D_1 1),x28] ++ (Ad D 7 11 ([x1,x10,x0,x43,x44,x45,x46,(D_2 6),(D_2 7),x3,x3] ++ (Ad D_4 0 5 ([x56] ++ (Ad D_2 16 24 (Ap [] 42)))))))) ∧ At w0 w h_4 ∧ K x56) H (fun hb_2 H => ?_) (fun hb_2 H => ?_) ?_
       ·refine lsmove (hg := by rw [hb_2]; kernel_rfl) x10 <| lsmove (hg := by rw [hb_2]; kernel_rfl) x1 <| lsmove (hg := by rw [hb_2]; kernel_rfl) x21 <| lsp (hg := by rw [hb_2]; kernel_rfl) 54 (padd H) fun x54 H => lsp (hg := by rw [hb_2]; kernel_rfl) 55 (psGe H) fun x55 H => lspickt x55 (by rw [hb_2]; kernel_rfl) <| ls_nil (then_normal ?_)
        exact ⟨(gd ([x10,x1,x21,x54,x55])),x55,by kernel_rfl,HA_5,H⟩
       ·refine lsskip (hg := by rw [hb_2]; kernel_rfl) 51 <| lsskip (hg := by rw [hb_2]; kernel_rfl) 52 <| lsskip (hg := by rw [hb_2]; kernel_rfl) 53 <| lsskip (hg := by rw [hb_2]; kernel_rfl) 54 <| lsskip (hg := by rw [hb_2]; kernel_rfl) 55 <| lspickf (.bool false) (by rw [hb_2]; kernel_rfl) <| ls_nil (then_normal ?_)
        exact ⟨(gd (Ap [] 5)),(.bool false),by kernel_rfl,HA_5,H⟩
       ·rintro _ w_7 ⟨D_4,x56,rfl,HA_7,H⟩
        refine lsmove x56 <| ls_or [(),(),(),(),(),(),(),(),(),(),(),(),()] (fun K a w => ∃ (D_5 : Nat → Value) (x70 : Value),a = (mk ([x0,x1,x21,x3,ud,ud,ud,ud,x8_1,x9,x10,ud,ud,x2,x0,x15,x16,x17,x1,x19,x20,x21,x9,x21,x24,x24,(D_1 0),(D_1 1),x28] ++ (Ad D 7 11 ([x1,x10,x0,x43,x44,x45,x46,(D_2 6),(D_2 7),x3,x3] ++ (Ad D_4 0 5 ([x56,x56] ++ (Ad D_5 0 12 ([x70] ++ (Ad D_2 30 10 (Ap [] 42)))))))))) ∧ At w0 w h_4 ∧ K x70) H (fun hb H => ?_) (fun hb H => ?_) ?_
        ·refine lsmove (hg := by rw [hb]; kernel_rfl) x3 <| lsp (hg := by rw [hb]; kernel_rfl) 59 (pnot H) fun x59 H => lsmove (hg := by rw [hb]; kernel_rfl) x59 <| ls_and [(),(),(),(),(),(),(),(),()] (fun K a w => ∃ (D_6 : Nat → Value) (x69 : Value),a = (mk ([x0,x1,x21,x3,ud,ud,ud,ud,x8_1,x9,x10,ud,ud,x2,x0,x15,x16,x17,x1,x19,x20,x21,x9,x21,x24,x24,(D_1 0),(D_1 1),x28] ++ (Ad D 7 11 ([x1,x10,x0,x43,x44,x45,x46,(D_2 6),(D_2 7),x3,x3] ++ (Ad D_4 0 5 ([x56,x56,x3,x59,x59] ++ (Ad D_6 0 8 ([x69] ++ (Ad D_2 29 11 (Ap [] 42)))))))))) ∧ At w0 w h_4 ∧ K x69) H (fun hb_1 H => ?_) (fun hb_1 H => ?_) ?_
         ·refine lsmove (hg := by rw [hb_1]; kernel_rfl) x10 <| lsmove (hg := by rw [hb_1]; kernel_rfl) x0 <| lsp (hg := by rw [hb_1]; kernel_rfl) 63 (pnil H) fun x63 H => lsp (hg := by rw [hb_1]; kernel_rfl) 64 (poff underlying75 rfl sizeOf3 rfl H) fun x64 H => lsy (hg := by rw [hb_1]; kernel_rfl) 65 HA_7 (yld isAgg3 H) fun x65 H => lsmove (hg := by rw [hb_1]; kernel_rfl) x21 <| lsp (hg := by rw [hb_1]; kernel_rfl) 67 (psub H) fun x67 H => lsp (hg := by rw [hb_1]; kernel_rfl) 68 (psLe H) fun x68 H => lspickt (hg := by rw [hb]; kernel_rfl) x68 (by rw [hb_1]; kernel_rfl) <| ls_nil (then_normal ?_)
          exact ⟨(gd ([x10,x0,x63,x64,x65,x21,x67,x68])),x68,by kernel_rfl,HA_7,H⟩
         ·refine lsskip (hg := by rw [hb_1]; kernel_rfl) 61 <| lsskip (hg := by rw [hb_1]; kernel_rfl) 62 <| lsskip (hg := by rw [hb_1]; kernel_rfl) 63 <| lsskip (hg := by rw [hb_1]; kernel_rfl) 64 <| lsskip (hg := by rw [hb_1]; kernel_rfl) 65 <| lsskip (hg := by rw [hb_1]; kernel_rfl) 66 <| lsskip (hg := by rw [hb_1]; kernel_rfl) 67 <| lsskip (hg := by rw [hb_1]; kernel_rfl) 68 <| lspickf (hg := by rw [hb]; kernel_rfl) (.bool false) (by rw [hb_1]; kernel_rfl) <| ls_nil (then_normal ?_)
          exact ⟨(gd (Ap [] 8)),(.bool false),by kernel_rfl,HA_7,H⟩
         ·rintro _ w_11 ⟨D_6,x69,rfl,HA_11,H⟩
          refine lspickf x69 (by rw [hb]; kernel_rfl) <| ls_nil (then_normal ?_)
          exact ⟨(gd ([x3,x59,x59] ++ (Ad D_6 0 8 [x69]))),x69,by kernel_rfl,HA_11,H⟩
        ·refine lsskip (hg := by rw [hb]; kernel_rfl) 58 <| lsskip (hg := by rw [hb]; kernel_rfl) 59 <| lsskip (hg := by rw [hb]; kernel_rfl) 60 <| lsskip 61 <| lsskip 62 <| lsskip 63 <| lsskip 64 <| lsskip 65 <| lsskip 66 <| lsskip 67 <| lsskip 68 <| lsskip (hg := by rw [hb]; kernel_rfl) 69 <| lspickt (.bool true) (by rw [hb]; kernel_rfl) <| ls_nil (then_normal ?_)
         exact ⟨(gd (Ap [] 12)),(.bool true),by kernel_rfl,HA_7,H⟩
        ·rintro _ w_8 ⟨D_5,x70,rfl,HA_8,H⟩
         refine ls_nil (then_normal ?_)
         refine freq (mk ([x0,x1,x21,x3,ud,ud,ud,ud,x8_1,x9,x10,ud,ud,x2,x0,x15,x16,x17,x1,x19,x20,x21,x9,x21,x24,x24,(D_1 0),(D_1 1),x28] ++ (Ad D 7 11 ([x1,x10,x0,x43,x44,x45,x46,(D_2 6),(D_2 7),x3,x3] ++ (Ad D_4 0 5 ([x56,x56] ++ (Ad D_5 0 12 ([x70] ++ (Ad D_2 30 10 (Ap [] 42)))))))))) <| wp_if rfl H (fun H => ?_) (fun H => ?_)
         ·refine lwp_list <| lsmove x8_1 <| lsmove x0 <| lsp 73 (pnil H) fun x73 H => lsp 74 (poff underlying75 rfl sizeOf26 rfl H) fun x74 H => lsy 75 HA_8 (yld isAgg26 H) fun x75 H => lsmove x10 <| lsp 77 (pixs underlying26 sizeOf32 H) fun x77 H => lsy 78 HA_8 (yld isAgg32 H) fun x78 H => lsd 79 HA_8 (dslit (zc := #[.slice none 0 0]) underlying26 sizeOf32 (by decide) (.inr ⟨by decide,_,zeroValue32,(by kernel_rfl)⟩) H) fun x79 h_6 w_9 H HA_9 => lsd 80 HA_9 (dapp (z := #[.slice none 0 0]) underlying26 underlying26 (.inl ⟨_,rfl⟩) typeInfo32 sizeOf32 zeroValue32 H) fun x80 h_7 w_10 H HA_10 => lsassign x80 <| ls_nil <| block_normal ?_
          exact ⟨(gd ([x3,x3] ++ (Ad D_4 0 5 ([x56,x56] ++ (Ad D_5 0 12 [x70,x8_1,x0,x73,x74,x75,x10,x77,x78,x79,x80]))))),x80,h_7,by kernel_rfl,HA_10,H⟩
         ·refine wp_skip <| block_normal <| ⟨(gd ([x3,x3] ++ (Ad D_4 0 5 ([x56,x56] ++ (Ad D_5 0 12 ([x70] ++ (Ad D_2 30 10 []))))))),x8_1,h_4,by kernel_rfl,HA_8,H⟩
      ·rintro _ w_6 ⟨D_3,x8_2,h_5,rfl,HA_6,H⟩
       unfold betonyref24_Screen_move_j3 at H
       refine then_normal <| freq (mk ([x0,x1,x21,x3,ud,ud,ud,ud,x8_2,x9,x10,ud,ud,x2,x0,x15,x16,x17,x1,x19,x20,x21,x9,x21,x24,x24,(D_1 0),(D_1 1),x28] ++ (Ad D 7 11 ([x1,x10,x0,x43,x44,x45,x46,(D_2 6),(D_2 7)] ++ (Ad D_3 0 32 (Ap [] 42)))))) <| lwp_list <| lsmove x10 <| lsp 48 (padd H) fun x48 H => lsassign x48 <| ls_nil <| ⟨⟨(gd ([x10,x0,x43,x44,x45,x46,x10,x48] ++ (Ad D_3 0 32 []))),x8_2,x48,h_5,by kernel_rfl,HA_6,H.1⟩, loop_lt HA_6.heap HA_5.heap (by kernel_rfl) (by kernel_rfl) H.2⟩
     ·refine wp_exit <| then_exit <| then_exit <| block_exit <| then_normal <| freq (mk ([x0,x1,x21,x3,ud,ud,ud,ud,x8_1,x9,x10,ud,ud,x2,x0,x15,x16,x17,x1,x19,x20,x21,x9,x21,x24,x24,(D_1 0),(D_1 1),x28] ++ (Ad D 7 11 ([x1,x10,x0,x43,x44,x45,x46] ++ (Ad D_2 6 34 (Ap [] 42)))))) <| wp_seq <| wp_seq (lwp_list ?_)
      refine lsassign (.int .i64 0) <| ls_nil (then_normal ?_)
      refine freq (mk ([x0,x1,x21,x3,ud,ud,ud,ud,x8_1,x9,x10,(.int .i64 0),ud,x2,x0,x15,x16,x17,x1,x19,x20,x21,x9,x21,x24,x24,(D_1 0),(D_1 1),x28] ++ (Ad D 7 11 ([x1,x10,x0,x43,x44,x45,x46] ++ (Ad D_2 6 34 (Ap [] 42)))))) <| wp_block ?_
      obtain ⟨I_2,m_2,H0,HB⟩ := H
      refine wp_loop (fun a w => ∃ (D_7 : Nat → Value) (x8_3 x11 : Value) (h_8 : Heap),a = (mk ([x0,x1,x21,x3,ud,ud,ud,ud,x8_3,x9,x10,x11,ud,x2,x0,x15,x16,x17,x1,x19,x20,x21,x9,x21,x24,x24,(D_1 0),(D_1 1),x28] ++ (Ad D 7 11 ([x1,x10,x0,x43,x44,x45,x46] ++ (Ad D_2 6 34 (Ad D_7 0 17 (Ap [] 25))))))) ∧ At w0 w h_8 ∧ I_2 (x8_3,x11) h_8) (fun a w => m_2 ((a.tmps.getD 8 ud),(a.tmps.getD 11 ud)) w.heap) ?_ ?_
      ·exact ⟨(gd (Ap [] 17)),x8_1,(.int .i64 0),h_4,by kernel_rfl,HA_5,H0⟩
      ·rintro _ w_12 ⟨D_7,x8_3,x11,h_8,rfl,HA_12,HI⟩
       have H : betonyref24_Screen_move_l4 R x0 x1 x21 x3 (fun x8_3' x11' h' => I_2 (x8_3', x11') h' ∧ m_2 (x8_3', x11') h' < m_2 (x8_3,x11) h_8) x8_3 x11 h_8 := HB (x8_3,x11) h_8 HI
       clear HB H0 HI
       unfold betonyref24_Screen_move_l4 at H
       refine wp_seq <| wp_seq (lwp_list ?_)
       refine lsmove x11 <| lsmove x21 <| lsp 83 (psLt H) fun x83 H => lsmove x83 <| ls_and [(),()] (fun K a w => ∃ (D_8 : Nat → Value) (x86 : Value),a = (mk ([x0,x1,x21,x3,ud,ud,ud,ud,x8_3,x9,x10,x11,ud,x2,x0,x15,x16,x17,x1,x19,x20,x21,x9,x21,x24,x24,(D_1 0),(D_1 1),x28] ++ (Ad D 7 11 ([x1,x10,x0,x43,x44,x45,x46] ++ (Ad D_2 6 34 ([x11,x21,x83,x83,(D_8 0),x86] ++ (Ad D_7 6 11 (Ap [] 25)))))))) ∧ At w0 w h_8 ∧ K x86) H (fun hb_3 H => ?_) (fun hb_3 H => ?_) ?_
       ·refine lsmove (hg := by rw [hb_3]; kernel_rfl) x3 <| lspickt x3 (by rw [hb_3]; kernel_rfl) <| ls_nil (then_normal ?_)
        exact ⟨(gd ([x3])),x3,by kernel_rfl,HA_12,H⟩
       ·refine lsskip (hg := by rw [hb_3]; kernel_rfl) 85 <| lspickf (.bool false) (by rw [hb_3]; kernel_rfl) <| ls_nil (then_normal ?_)
        exact ⟨(gd ([ud])),(.bool false),by kernel_rfl,HA_12,H⟩
       ·rintro _ w_13 ⟨D_8,x86,rfl,HA_13,H⟩
        refine ls_nil (then_normal ?_)
        refine freq (mk ([x0,x1,x21,x3,ud,ud,ud,ud,x8_3,x9,x10,x11,ud,x2,x0,x15,x16,x17,x1,x19,x20,x21,x9,x21,x24,x24,(D_1 0),(D_1 1),x28] ++ (Ad D 7 11 ([x1,x10,x0,x43,x44,x45,x46] ++ (Ad D_2 6 34 ([x11,x21,x83,x83,(D_8 0),x86] ++ (Ad D_7 6 11 (Ap [] 25)))))))) <| wp_if rfl H (fun H => ?_) (fun H => ?_)
        ·refine wp_skip <| then_normal <| freq (mk ([x0,x1,x21,x3,ud,ud,ud,ud,x8_3,x9,x10,x11,ud,x2,x0,x15,x16,x17,x1,x19,x20,x21,x9,x21,x24,x24,(D_1 0),(D_1 1),x28] ++ (Ad D 7 11 ([x1,x10,x0,x43,x44,x45,x46] ++ (Ad D_2 6 34 ([x11,x21,x83,x83,(D_8 0),x86] ++ (Ad D_7 6 11 (Ap [] 25)))))))) <| wp_seq <| wp_block <| lwp_list <| lsmove x8_3 <| lsmove x0 <| lsmove x0 <| lsp 92 (pnil H) fun x92 H => lsp 93 (poff underlying75 rfl sizeOf3 rfl H) fun x93 H => lsy 94 HA_13 (yld isAgg3 H) fun x94 H => lsd 95 HA_13 (dcall H) fun x95 h_9 w_14 H HA_14 => lsd 96 HA_14 (dslit (zc := #[.slice none 0 0]) underlying26 sizeOf32 (by decide) (.inr ⟨by decide,_,zeroValue32,(by kernel_rfl)⟩) H) (fun x96 h_10 w_15 H HA_15 => ?_)
         refine lsd 97 HA_15 (dapp (z := #[.slice none 0 0]) underlying26 underlying26 (.inl ⟨_,rfl⟩) typeInfo32 sizeOf32 zeroValue32 H) fun x97 h_11 w_16 H HA_16 => lsassign x97 <| ls_nil <| block_normal <| then_normal <| freq (mk ([x0,x1,x21,x3,ud,ud,ud,ud,x97,x9,x10,x11,ud,x2,x0,x15,x16,x17,x1,x19,x20,x21,x9,x21,x24,x24,(D_1 0),(D_1 1),x28] ++ (Ad D 7 11 ([x1,x10,x0,x43,x44,x45,x46] ++ (Ad D_2 6 34 (Ap [x11,x21,x83,x83,(D_8 0),x86,(D_7 6),(D_7 7),x8_3,x0,x0,x92,x93,x94,x95,x96,x97] 25)))))) <| lwp_list <| lsmove x11 <| lsp 88 (padd H) fun x88 H => lsassign x88 <| ls_nil <| ⟨⟨(gd ([x11,x21,x83,x83,(D_8 0),x86,x11,x88,x8_3,x0,x0,x92,x93,x94,x95,x96,x97])),x97,x88,h_11,by kernel_rfl,HA_16,H.1⟩, loop_lt HA_16.heap HA_12.heap (by kernel_rfl) (by kernel_rfl) H.2⟩
        ·refine wp_exit <| then_exit <| then_exit <| block_exit <| then_normal <| freq (mk ([x0,x1,x21,x3,ud,ud,ud,ud,x8_3,x9,x10,x11,ud,x2,x0,x15,x16,x17,x1,x19,x20,x21,x9,x21,x24,x24,(D_1 0),(D_1 1),x28] ++ (Ad D 7 11 ([x1,x10,x0,x43,x44,x45,x46] ++ (Ad D_2 6 34 ([x11,x21,x83,x83,(D_8 0),x86] ++ (Ad D_7 6 11 (Ap [] 25)))))))) <| wp_seq (lwp_list ?_)
         refine lsd 98 HA_13 (dslit (zc := #[]) underlying26 sizeOf32 (by decide) (.inl ⟨(by kernel_rfl),(by kernel_rfl)⟩) H) fun x98 h_12 w_17 H HA_17 => lsmove x0 <| lsp 100 (pnil H) fun x100 H => lsp 101 (poff underlying75 rfl sizeOf26 rfl H) fun x101 H => lsy 102 HA_17 (yld isAgg26 H) fun x102 H => lsmove x1 <| lsp 104 (psl underlying26 sizeOf32 H) fun x104 H => lsd 105 HA_17 (dapp (z := #[.slice none 0 0]) underlying26 underlying26 (.inl ⟨_,rfl⟩) typeInfo32 sizeOf32 zeroValue32 H) fun x105 h_13 w_18 H HA_18 => lsmove x8_3 <| lsd 107 HA_18 (dapp (z := #[.slice none 0 0]) underlying26 underlying26 (.inl ⟨_,rfl⟩) typeInfo32 sizeOf32 zeroValue32 H) fun x107 h_14 w_19 H HA_19 => lsassign x107 <| ls_nil (then_normal ?_)
         refine freq (mk ([x0,x1,x21,x3,ud,ud,ud,ud,x8_3,x9,x10,x11,x107,x2,x0,x15,x16,x17,x1,x19,x20,x21,x9,x21,x24,x24,(D_1 0),(D_1 1),x28] ++ (Ad D 7 11 ([x1,x10,x0,x43,x44,x45,x46] ++ (Ad D_2 6 34 ([x11,x21,x83,x83,(D_8 0),x86] ++ (Ad D_7 6 11 (Ap [x98,x0,x100,x101,x102,x1,x104,x105,x8_3,x107] 15)))))))) <| lwpmx (Nat.testBit 36864) (Nat.testBit 0) (Nat.testBit 28127) [0,0,0,4,12,28,0,64,192,448,960,2044,4094,8191,16383,32767] (Nat.testBit 0) (fun h' => h' = h_14) [0,1,2,3,4,5,6,7,8,9,10,11,12,13,14,15] HA_19 rfl fun w_20 HA_20 => lmal x0 108 rfl (almove) <| lmal x107 109 rfl (almove) <| lmal x0 110 rfl (almove) <| lmp 111 rfl (pnil H) fun x111 H => lmp 112 rfl (poff underlying75 rfl sizeOf26 rfl H) fun x112 H => lmf 113 rfl (of_eq (yld isAgg26 H)) fun x113 H => lmal x0 114 rfl (almove) <| lmp 115 rfl (pnil H) fun x115 H => lmp 116 rfl (poff underlying75 rfl sizeOf3 rfl H) fun x116 H => lmf 117 rfl (of_eq (yld isAgg3 H)) fun x117 H => lmp 118 rfl (padd H) (fun x118 H => ?_)
         refine lmp 119 rfl (psl underlying26 sizeOf32 H) fun x119 H => lmd 120 rfl HA_20 (dapp (z := #[.slice none 0 0]) underlying26 underlying26 (.inl ⟨_,rfl⟩) typeInfo32 sizeOf32 zeroValue32 H) fun x120 h_15 w_21 H HA_21 => lmp 121 rfl (pnil H) fun x121 H => lmp 122 rfl (poff underlying75 rfl sizeOf26 rfl H) fun x122 H => lmdn rfl HA_21 (dstw sizeOf26 H) fun _ h_16 w_22 H HA_22 => lm_nil <| end0 (results82) (by kernel_rfl) HA_22 H _ (.inl rfl)

end Go.Proofs.YtmhhjpfkipficaaDoor


end

section
/- The shallow reading of one function, and that the function does it. Written by a program. -/
set_option linter.unusedVariables false
namespace Go.Proofs.YtmhhjpfkipficaaDoor
open Go Go.HW _root_.Go.Proofs.Tryd

def betonyref24_Screen_scroll_j2 (next : Value → Heap → Prop) (x4 : Value) (h_1 : Heap) : Prop :=
  sAdd .i64 x4 (.int .i64 1) fun x28 =>
  next x28 h_1
def betonyref24_Screen_scroll_l1 (R : Value → Heap → Prop) (x0 x16 : Value) (next : Value → Heap → Prop) (x4 : Value) (h : Heap) : Prop :=
  sLt x4 x16 fun x19 =>
  sAnd x19 (fun k =>
  sNil x0 fun x22 =>
  sOff x22 12 fun x23 =>
  sLd h x23 fun x24 =>
  sEq x24 (.int .i64 0) fun x25 =>
  k x25) fun x26 =>
  sIf x26 (∃ C : Heap → Prop, C h ∧ (sNil x0 fun x32 =>
  sOff x32 22 fun x33 =>
  sLdC C x33 fun x34 =>
  sNil x0 fun x37 =>
  sOff x37 2 fun x38 =>
  sLdC C x38 fun x39 =>
  sIxS x39 x4 1 fun x41 =>
  sLdC C x41 fun x42 =>
  (sSlit h #[] [] 32 0 fun x30 h_2 => C h_2 ∧ (
  (sApp h_2 x30 x34 #[.slice none 0 0] 32 24 fun x35 h_3 => C h_3 ∧ (
  sSlit h_3 #[.slice none 0 0] [(0, 1, x42)] 32 1 fun x43 h_4 => C h_4 ∧ (
  sApp h_4 x35 x43 #[.slice none 0 0] 32 24 fun x44 h_5 => 
  sNil x0 fun x45 =>
  sOff x45 22 fun x46 =>
  sSt h_5 x46 x44 fun h_6 => 
  betonyref24_Screen_scroll_j2 next x4 h_6))) ∧
  (sSlit h_2 #[.slice none 0 0] [(0, 1, x42)] 32 1 fun x43_1 h_7 => C h_7 ∧ (
  sApp h_7 x30 x34 #[.slice none 0 0] 32 24 fun x35_1 h_8 => C h_8 ∧ (
  sApp h_8 x35_1 x43_1 #[.slice none 0 0] 32 24 fun x44_1 h_9 => 
  sNil x0 fun x45_1 =>
  sOff x45_1 22 fun x46_1 =>
  sSt h_9 x46_1 x44_1 fun h_10 => 
  betonyref24_Screen_scroll_j2 next x4 h_10))))) ∧
  (sSlit h #[.slice none 0 0] [(0, 1, x42)] 32 1 fun x43_2 h_11 => C h_11 ∧ (
  sSlit h_11 #[] [] 32 0 fun x30_1 h_12 => C h_12 ∧ (
  sApp h_12 x30_1 x34 #[.slice none 0 0] 32 24 fun x35_2 h_13 => C h_13 ∧ (
  sApp h_13 x35_2 x43_2 #[.slice none 0 0] 32 24 fun x44_2 h_14 => 
  sNil x0 fun x45_2 =>
  sOff x45_2 22 fun x46_2 =>
  sSt h_14 x46_2 x44_2 fun h_15 => 
  betonyref24_Screen_scroll_j2 next x4 h_15)))))) (sNil x0 fun x49 =>
  sOff x49 12 fun x50 =>
  sLd h x50 fun x51 =>
  betonyref24_Screen_move_c x0 x51 x16 (.bool true) h fun x53 h_16 => 
  R unit h_16)
def betonyref24_Screen_scroll_S (x0 x1 : Value) (h : Heap) (R : Value → Heap → Prop) : Prop :=
  sNil x0 fun x7 =>
  sOff x7 13 fun x8 =>
  sLd h x8 fun x9 =>
  sNil x0 fun x11 =>
  sOff x11 12 fun x12 =>
  sLd h x12 fun x13 =>
  sSub .i64 x9 x13 fun x14 =>
  sAdd .i64 x14 (.int .i64 1) fun x15 =>
  sMin x1 x15 fun x16 =>
  sLoop (S := Value) (fun nxt s h => betonyref24_Screen_scroll_l1 R x0 x16 (fun x4' h => nxt x4' h) s h) (.int .i64 0) h
set_option maxRecDepth 100000 in
theorem betonyref24_Screen_scroll_runs {x0 x1 : Value} {h : Heap} {R : Value → Heap → Prop} (H : betonyref24_Screen_scroll_S x0 x1 h R) : betonyref24_Screen_scroll_c x0 x1 h R := by
 unfold betonyref24_Screen_scroll_S at H
 refine runsof (b := ⟨#[x0,x1,ud,ud,ud,ud,ud,ud,ud,ud,ud,ud,ud,ud,ud,ud,ud,ud,ud,ud,ud,ud,ud,ud,ud,ud,ud,ud,ud,ud,ud,ud,ud,ud,ud,ud,ud,ud,ud,ud,ud,ud,ud,ud,ud,ud,ud,ud,ud,ud,ud,ud,ud,ud], []⟩) call81 func81 rfl fun w0 HA => wp_seq <| lwpqt HA <| lqmove x1 <| lqmove x0 <| lqp 7 (pnil H) fun x7 H => lqp 8 (poff underlying75 rfl sizeOf3 rfl H) fun x8 H => lqy 9 HA (yld isAgg3 H) fun x9 H => lqmove x0 <| lqp 11 (pnil H) fun x11 H => lqp 12 (poff underlying75 rfl sizeOf3 rfl H) fun x12 H => lqy 13 HA (yld isAgg3 H) fun x13 H => lqp 14 (psub H) fun x14 H => lqp 15 (padd H) (fun x15 H => ?_)
 refine lqp 16 (pmin H) fun x16 H => lqassign x16 <| lq_nil fun w HA => then_normal <| freq ⟨#[x0,x16,ud,ud,ud,x1,x0,x7,x8,x9,x0,x11,x12,x13,x14,x15,x16,ud,ud,ud,ud,ud,ud,ud,ud,ud,ud,ud,ud,ud,ud,ud,ud,ud,ud,ud,ud,ud,ud,ud,ud,ud,ud,ud,ud,ud,ud,ud,ud,ud,ud,ud,ud,ud], []⟩ <| wp_seq <| wp_seq (lwp_list ?_)
 refine lsassign (.int .i64 0) <| ls_nil (then_normal ?_)
 refine freq ⟨#[x0,x16,ud,ud,(.int .i64 0),x1,x0,x7,x8,x9,x0,x11,x12,x13,x14,x15,x16,ud,ud,ud,ud,ud,ud,ud,ud,ud,ud,ud,ud,ud,ud,ud,ud,ud,ud,ud,ud,ud,ud,ud,ud,ud,ud,ud,ud,ud,ud,ud,ud,ud,ud,ud,ud,ud], []⟩ <| wp_block ?_
 obtain ⟨I,m,H0,HB⟩ := H
 refine wp_loop (fun a w => ∃ (D : Nat → Value) (x4 : Value) (h : Heap),a = ⟨#[x0,x16,ud,ud,x4,x1,x0,x7,x8,x9,x0,x11,x12,x13,x14,x15,x16,(D 0),(D 1),(D 2),(D 3),(D 4),(D 5),(D 6),(D 7),(D 8),(D 9),(D 10),(D 11),(D 12),(D 13),(D 14),(D 15),(D 16),(D 17),(D 18),(D 19),(D 20),(D 21),(D 22),(D 23),(D 24),(D 25),(D 26),(D 27),(D 28),(D 29),ud,ud,ud,ud,ud,ud,ud], []⟩ ∧ At w0 w h ∧ I x4 h) (fun a w => m (a.tmps.getD 4 ud) w.heap) ?_ ?_
 ·exact ⟨(gd (Ap [] 30)),(.int .i64 0),h,by kernel_rfl,HA,H0⟩
 ·rintro _ w_1 ⟨D,x4,h,rfl,HA_1,HI⟩
  have H : betonyref24_Screen_scroll_l1 R x0 x16 (fun x4' h' => I x4' h' ∧ m x4' h' < m x4 h) x4 h := HB x4 h HI
  clear HB H0 HI
  unfold betonyref24_Screen_scroll_l1 at H
  refine wp_seq <| wp_seq (lwp_list ?_)
  refine lsmove x4 <| lsmove x16 <| lsp 19 (psLt H) fun x19 H => lsmove x19 <| ls_and [(),(),(),(),(),()] (fun K a w => ∃ (D_1 : Nat → Value) (x26 : Value),a = ⟨#[x0,x16,ud,ud,x4,x1,x0,x7,x8,x9,x0,x11,x12,x13,x14,x15,x16,x4,x16,x19,x19,(D_1 0),(D_1 1),(D_1 2),(D_1 3),(D_1 4),x26,(D 10),(D 11),(D 12),(D 13),(D 14),(D 15),(D 16),(D 17),(D 18),(D 19),(D 20),(D 21),(D 22),(D 23),(D 24),(D 25),(D 26),(D 27),(D 28),(D 29),ud,ud,ud,ud,ud,ud,ud], []⟩ ∧ At w0 w h ∧ K x26) H (fun hb H => ?_) (fun hb H => ?_) ?_
  ·refine lsmove (hg := by rw [hb]; kernel_rfl) x0 <| lsp (hg := by rw [hb]; kernel_rfl) 22 (pnil H) fun x22 H => lsp (hg := by rw [hb]; kernel_rfl) 23 (poff underlying75 rfl sizeOf3 rfl H) fun x23 H => lsy (hg := by rw [hb]; kernel_rfl) 24 HA_1 (yld isAgg3 H) fun x24 H => lsp (hg := by rw [hb]; kernel_rfl) 25 (psEq H) fun x25 H => lspickt x25 (by rw [hb]; kernel_rfl) <| ls_nil (then_normal ?_)
   exact ⟨(gd ([x0,x22,x23,x24,x25])),x25,by kernel_rfl,HA_1,H⟩
  ·refine lsskip (hg := by rw [hb]; kernel_rfl) 21 <| lsskip (hg := by rw [hb]; kernel_rfl) 22 <| lsskip (hg := by rw [hb]; kernel_rfl) 23 <| lsskip (hg := by rw [hb]; kernel_rfl) 24 <| lsskip (hg := by rw [hb]; kernel_rfl) 25 <| lspickf (.bool false) (by rw [hb]; kernel_rfl) <| ls_nil (then_normal ?_)
   exact ⟨(gd (Ap [] 5)),(.bool false),by kernel_rfl,HA_1,H⟩
  ·rintro _ w_2 ⟨D_1,x26,rfl,HA_2,H⟩
   refine ls_nil (then_normal ?_)
   refine freq ⟨#[x0,x16,ud,ud,x4,x1,x0,x7,x8,x9,x0,x11,x12,x13,x14,x15,x16,x4,x16,x19,x19,(D_1 0),(D_1 1),(D_1 2),(D_1 3),(D_1 4),x26,(D 10),(D 11),(D 12),(D 13),(D 14),(D 15),(D 16),(D 17),(D 18),(D 19),(D 20),(D 21),(D 22),(D 23),(D 24),(D 25),(D 26),(D 27),(D 28),(D 29),ud,ud,ud,ud,ud,ud,ud], []⟩ <| wp_if rfl H (fun H => ?_) (fun H => ?_)
   ·refine wp_skip <| then_normal <| freq ⟨#[x0,x16,ud,ud,x4,x1,x0,x7,x8,x9,x0,x11,x12,x13,x14,x15,x16,x4,x16,x19,x19,(D_1 0),(D_1 1),(D_1 2),(D_1 3),(D_1 4),x26,(D 10),(D 11),(D 12),(D 13),(D 14),(D 15),(D 16),(D 17),(D 18),(D 19),(D 20),(D 21),(D 22),(D 23),(D 24),(D 25),(D 26),(D 27),(D 28),(D 29),ud,ud,ud,ud,ud,ud,ud], []⟩ <| wp_seq <| wp_block <| wp_join (fun a w => ∃ (D_2 : Nat → Value) (h_1 : Heap),a = ⟨#[x0,x16,ud,ud,x4,x1,x0,x7,x8,x9,x0,x11,x12,x13,x14,x15,x16,x4,x16,x19,x19,(D_1 0),(D_1 1),(D_1 2),(D_1 3),(D_1 4),x26,(D 10),(D 11),(D_2 0),(D_2 1),(D_2 2),(D_2 3),(D_2 4),(D_2 5),(D_2 6),(D_2 7),(D_2 8),(D_2 9),(D_2 10),(D_2 11),(D_2 12),(D_2 13),(D_2 14),(D_2 15),(D_2 16),(D_2 17),ud,ud,ud,ud,ud,ud,ud], []⟩ ∧ At w0 w h_1 ∧ betonyref24_Screen_scroll_j2 (fun x4' h' => I x4' h' ∧ m x4' h' < m x4 h) x4 h_1) ?_ ?_
    ·obtain ⟨C,HC,H⟩ := H
     refine lwppl (Nat.testBit 311362) (Nat.testBit 16450) (Nat.testBit 203677) [0,0,0,4,12,28,62,0,128,384,896,0,3968,8064,16256,32766,65535,131071,262143] (Nat.testBit 0) C (.op 0 (.op 2 (.op 3 (.op 4 (.op 5 (.op 7 (.op 8 (.op 9 (.op 10 (.op 11 (.op 12 (.op 13 (.alt (.op 1 (.alt (.op 6 (.op 14 (.op 15 (.op 16 (.op 17 (.op 18 .done)))))) (.op 14 (.op 6 (.op 15 (.op 16 (.op 17 (.op 18 .done)))))))) (.op 14 (.op 1 (.op 6 (.op 15 (.op 16 (.op 17 (.op 18 .done)))))))))))))))))))) HA_2 HC fun w_4 HA_4 => lpal (x := x0) 29 rfl (almove) <| lpal (x := x0) 31 rfl (almove) <| lpp 32 rfl (pnil H) fun x32 H => lpp 33 rfl (poff underlying75 rfl sizeOf26 rfl H) fun x33 H => lpf 34 rfl (cld isAgg26 H) fun x34 H => lpal (x := x0) 36 rfl (almove) <| lpfr ⟨#[x0,x16,ud,ud,x4,x1,x0,x7,x8,x9,x0,x11,x12,x13,x14,x15,x16,x4,x16,x19,x19,(D_1 0),(D_1 1),(D_1 2),(D_1 3),(D_1 4),x26,(D 10),(D 11),x0,(D 13),x0,x32,x33,x34,(D 18),x0,(D 20),(D 21),(D 22),(D 23),(D 24),(D 25),(D 26),(D 27),(D 28),(D 29),ud,ud,ud,ud,ud,ud,ud], []⟩ <| lpp 37 rfl (pnil H) fun x37 H => lpp 38 rfl (poff underlying75 rfl sizeOf26 rfl H) fun x38 H => lpf 39 rfl (cld isAgg26 H) fun x39 H => lpal (x := x4) 40 rfl (almove) <| lpp 41 rfl (pixs underlying26 sizeOf32 H) (fun x41 H => ?_)
     refine lpf 42 rfl (cld isAgg32 H) fun x42 H => lpfr ⟨#[x0,x16,ud,ud,x4,x1,x0,x7,x8,x9,x0,x11,x12,x13,x14,x15,x16,x4,x16,x19,x19,(D_1 0),(D_1 1),(D_1 2),(D_1 3),(D_1 4),x26,(D 10),(D 11),x0,(D 13),x0,x32,x33,x34,(D 18),x0,x37,x38,x39,x4,x41,x42,(D 26),(D 27),(D 28),(D 29),ud,ud,ud,ud,ud,ud,ud], []⟩ ?_
     obtain ⟨Ha,Hb⟩ := H
     refine lp_alt ?_ ?_
     ·have H := Ha
      clear Ha Hb
      refine lpdc 30 rfl HA_4 (dslit (zc := #[]) underlying26 sizeOf32 (by decide) (.inl ⟨(by kernel_rfl),(by kernel_rfl)⟩) H) (fun x30 h_2 w_5 H HA_5 => ?_)
      obtain ⟨Ha,Hb⟩ := H
      refine lp_alt ?_ ?_
      ·have H := Ha
       clear Ha Hb
       refine lpdc 35 rfl HA_5 (dapp (z := #[.slice none 0 0]) underlying26 underlying26 (.inl ⟨_,rfl⟩) typeInfo32 sizeOf32 zeroValue32 H) fun x35 h_3 w_6 H HA_6 => lpdc 43 rfl HA_6 (dslit (zc := #[.slice none 0 0]) underlying26 sizeOf32 (by decide) (.inr ⟨by decide,_,zeroValue32,(by kernel_rfl)⟩) H) fun x43 h_4 w_7 H HA_7 => lpd 44 rfl HA_7 (dapp (z := #[.slice none 0 0]) underlying26 underlying26 (.inl ⟨_,rfl⟩) typeInfo32 sizeOf32 zeroValue32 H) fun x44 h_5 w_8 H HA_8 => lpp 45 rfl (pnil H) fun x45 H => lpp 46 rfl (poff underlying75 rfl sizeOf26 rfl H) fun x46 H => lpfr ⟨#[x0,x16,ud,ud,x4,x1,x0,x7,x8,x9,x0,x11,x12,x13,x14,x15,x16,x4,x16,x19,x19,(D_1 0),(D_1 1),(D_1 2),(D_1 3),(D_1 4),x26,(D 10),(D 11),x0,x30,x0,x32,x33,x34,x35,x0,x37,x38,x39,x4,x41,x42,x43,x44,x45,x46,ud,ud,ud,ud,ud,ud,ud], []⟩ <| lp_d (d := none) (by kernel_rfl) rfl (by kernel_rfl) (by kernel_rfl) (by kernel_rfl) HA_8 (dstw sizeOf26 H) fun _ h_6 w_9 H HA_9 => lp_nil <| ⟨(gd ([x0,x30,x0,x32,x33,x34,x35,x0,x37,x38,x39,x4,x41,x42,x43,x44,x45,x46])),h_6,by kernel_rfl,HA_9,H⟩
      ·have H := Hb
       clear Ha Hb
       refine lpdc 43 rfl HA_5 (dslit (zc := #[.slice none 0 0]) underlying26 sizeOf32 (by decide) (.inr ⟨by decide,_,zeroValue32,(by kernel_rfl)⟩) H) fun x43_1 h_7 w_10 H HA_10 => lpdc 35 rfl HA_10 (dapp (z := #[.slice none 0 0]) underlying26 underlying26 (.inl ⟨_,rfl⟩) typeInfo32 sizeOf32 zeroValue32 H) fun x35_1 h_8 w_11 H HA_11 => lpd 44 rfl HA_11 (dapp (z := #[.slice none 0 0]) underlying26 underlying26 (.inl ⟨_,rfl⟩) typeInfo32 sizeOf32 zeroValue32 H) fun x44_1 h_9 w_12 H HA_12 => lpp 45 rfl (pnil H) fun x45_1 H => lpp 46 rfl (poff underlying75 rfl sizeOf26 rfl H) fun x46_1 H => lpfr ⟨#[x0,x16,ud,ud,x4,x1,x0,x7,x8,x9,x0,x11,x12,x13,x14,x15,x16,x4,x16,x19,x19,(D_1 0),(D_1 1),(D_1 2),(D_1 3),(D_1 4),x26,(D 10),(D 11),x0,x30,x0,x32,x33,x34,x35_1,x0,x37,x38,x39,x4,x41,x42,x43_1,x44_1,x45_1,x46_1,ud,ud,ud,ud,ud,ud,ud], []⟩ <| lp_d (d := none) (by kernel_rfl) rfl (by kernel_rfl) (by kernel_rfl) (by kernel_rfl) HA_12 (dstw sizeOf26 H) fun _ h_10 w_13 H HA_13 => lp_nil <| ⟨(gd ([x0,x30,x0,x32,x33,x34,x35_1,x0,x37,x38,x39,x4,x41,x42,x43_1,x44_1,x45_1,x46_1])),h_10,by kernel_rfl,HA_13,H⟩
     ·have H := Hb
      clear Ha Hb
      refine lpdc 43 rfl HA_4 (dslit (zc := #[.slice none 0 0]) underlying26 sizeOf32 (by decide) (.inr ⟨by decide,_,zeroValue32,(by kernel_rfl)⟩) H) fun x43_2 h_11 w_14 H HA_14 => lpdc 30 rfl HA_14 (dslit (zc := #[]) underlying26 sizeOf32 (by decide) (.inl ⟨(by kernel_rfl),(by kernel_rfl)⟩) H) fun x30_1 h_12 w_15 H HA_15 => lpdc 35 rfl HA_15 (dapp (z := #[.slice none 0 0]) underlying26 underlying26 (.inl ⟨_,rfl⟩) typeInfo32 sizeOf32 zeroValue32 H) fun x35_2 h_13 w_16 H HA_16 => lpd 44 rfl HA_16 (dapp (z := #[.slice none 0 0]) underlying26 underlying26 (.inl ⟨_,rfl⟩) typeInfo32 sizeOf32 zeroValue32 H) fun x44_2 h_14 w_17 H HA_17 => lpp 45 rfl (pnil H) fun x45_2 H => lpp 46 rfl (poff underlying75 rfl sizeOf26 rfl H) fun x46_2 H => lpfr ⟨#[x0,x16,ud,ud,x4,x1,x0,x7,x8,x9,x0,x11,x12,x13,x14,x15,x16,x4,x16,x19,x19,(D_1 0),(D_1 1),(D_1 2),(D_1 3),(D_1 4),x26,(D 10),(D 11),x0,x30_1,x0,x32,x33,x34,x35_2,x0,x37,x38,x39,x4,x41,x42,x43_2,x44_2,x45_2,x46_2,ud,ud,ud,ud,ud,ud,ud], []⟩ <| lp_d (d := none) (by kernel_rfl) rfl (by kernel_rfl) (by kernel_rfl) (by kernel_rfl) HA_17 (dstw sizeOf26 H) fun _ h_15 w_18 H HA_18 => lp_nil <| ⟨(gd ([x0,x30_1,x0,x32,x33,x34,x35_2,x0,x37,x38,x39,x4,x41,x42,x43_2,x44_2,x45_2,x46_2])),h_15,by kernel_rfl,HA_18,H⟩
    ·rintro _ w_3 ⟨D_2,h_1,rfl,HA_3,H⟩
     unfold betonyref24_Screen_scroll_j2 at H
     refine block_normal <| then_normal <| freq ⟨#[x0,x16,ud,ud,x4,x1,x0,x7,x8,x9,x0,x11,x12,x13,x14,x15,x16,x4,x16,x19,x19,(D_1 0),(D_1 1),(D_1 2),(D_1 3),(D_1 4),x26,(D 10),(D 11),(D_2 0),(D_2 1),(D_2 2),(D_2 3),(D_2 4),(D_2 5),(D_2 6),(D_2 7),(D_2 8),(D_2 9),(D_2 10),(D_2 11),(D_2 12),(D_2 13),(D_2 14),(D_2 15),(D_2 16),(D_2 17),ud,ud,ud,ud,ud,ud,ud], []⟩ <| lwp_list <| lsmove x4 <| lsp 28 (padd H) fun x28 H => lsassign x28 <| ls_nil <| ⟨⟨(gd ([x4,x16,x19,x19] ++ (Ad D_1 0 5 ([x26,x4,x28] ++ (Ad D_2 0 18 []))))),x28,h_1,by kernel_rfl,HA_3,H.1⟩, loop_lt HA_3.heap HA_1.heap (by kernel_rfl) (by kernel_rfl) H.2⟩
   ·refine wp_exit <| then_exit <| then_exit <| block_exit <| then_normal <| freq ⟨#[x0,x16,ud,ud,x4,x1,x0,x7,x8,x9,x0,x11,x12,x13,x14,x15,x16,x4,x16,x19,x19,(D_1 0),(D_1 1),(D_1 2),(D_1 3),(D_1 4),x26,(D 10),(D 11),(D 12),(D 13),(D 14),(D 15),(D 16),(D 17),(D 18),(D 19),(D 20),(D 21),(D 22),(D 23),(D 24),(D 25),(D 26),(D 27),(D 28),(D 29),ud,ud,ud,ud,ud,ud,ud], []⟩ <| lwp_list <| lsmove x0 <| lsmove x0 <| lsp 49 (pnil H) fun x49 H => lsp 50 (poff underlying75 rfl sizeOf3 rfl H) fun x50 H => lsy 51 HA_2 (yld isAgg3 H) fun x51 H => lsmove x16 <| lsd 53 HA_2 (dcall H) (fun x53 h_16 w_19 H HA_19 => ?_)
    refine ls_nil <| end0 (results81) (by kernel_rfl) HA_19 H _ (.inl rfl)

end Go.Proofs.YtmhhjpfkipficaaDoor


end
