/-
  Joined: ZRiscRefGood.
-/
import Derived.Test.YtceflhffilldeaaGreatZBits
set_option linter.unusedVariables false
set_option linter.unusedSimpArgs false
set_option maxRecDepth 100000
set_option maxHeartbeats 16000000
namespace Go.Proofs.YtceflhffilldeaaGreat
open Go.RowKit Bw
theorem ref02_in (n a b:Int) (w:World) :
  Calls Tryz.prog 123 #[.int .i64 n,.int .i64 a,.int .i64 b] w fun e w'=>e=.returned (.bool (Ins.inb n a b))∧w=w':=by
 go_enter Tryz.func123,Tryz.ntmps123
 go_wp2
 all_goals go_ret
 all_goals refine⟨ret_bool ?_,rfl⟩
 all_goals (rw[Bool.eq_iff_iff];simp only[Ins.inb,decide_eq_true_eq];simp;omega)
theorem ref02_bit (b:Bool) (w:World) :
  Calls Tryz.prog 93 #[.bool b] w fun e w'=>e=.returned (.int .u32 (Ins.bit b))∧w=w':=by
 cases b
 all_goals go_enter Tryz.func93,Tryz.ntmps93
 all_goals go_wp2
 all_goals go_ret
 all_goals exact⟨rfl,rfl⟩
end Go.Proofs.YtceflhffilldeaaGreat
namespace Go.Proofs.YtceflhffilldeaaGreat
open Go.RowKit Bw
theorem ref02_good_0tt (a b c op im:Int) (w:World) (ha:-9223372036854775808≤a) (ha':a≤9223372036854775807) (hb:-9223372036854775808≤b) (hb':b≤9223372036854775807) (hc:-9223372036854775808≤c) (hc':c≤9223372036854775807) (hop:-9223372036854775808≤op) (hop':op≤9223372036854775807) (him:-9223372036854775808≤im) (him':im≤9223372036854775807) :
  Calls Tryz.prog 91 #[Ins.val ⟨0,true,true,a,b,c,op,im⟩] w fun e w'=>e=.returned (.bool (Ins.good ⟨0,true,true,a,b,c,op,im⟩))∧Below w.heap.size w w':=by
 simp only[Ins.val,Ins.cells]
 go_enter Tryz.func91,Tryz.ntmps91
 go_wp2_with (first | (go_at_call 123;refine(ref02_in _ _ _ _).mono ?_;rintro e w' ⟨rfl,rfl⟩) | (go_at_call 57;refine(ref01_fits _ _ _ (by omega) (by omega)).mono ?_;rintro e w' ⟨rfl,rfl⟩))
 all_goals go_ret
 all_goals refine⟨ret_bool ?_,?_⟩
 all_goals first | (repeat (first | exact Below.refl _ _ | apply Below.drew | refine Below.alloc ?_ (by simp) _)) | skip
 all_goals simp_all[Ins.good,Ins.inb,Ins.uop,half4,half16,fits20,fits24]
 all_goals first | omega | (rw[Bool.eq_iff_iff];simp;omega)
theorem ref02_good_0tf (a b c op im:Int) (w:World) (ha:-9223372036854775808≤a) (ha':a≤9223372036854775807) (hb:-9223372036854775808≤b) (hb':b≤9223372036854775807) (hc:-9223372036854775808≤c) (hc':c≤9223372036854775807) (hop:-9223372036854775808≤op) (hop':op≤9223372036854775807) (him:-9223372036854775808≤im) (him':im≤9223372036854775807) :
  Calls Tryz.prog 91 #[Ins.val ⟨0,true,false,a,b,c,op,im⟩] w fun e w'=>e=.returned (.bool (Ins.good ⟨0,true,false,a,b,c,op,im⟩))∧Below w.heap.size w w':=by
 simp only[Ins.val,Ins.cells]
 go_enter Tryz.func91,Tryz.ntmps91
 go_wp2_with (first | (go_at_call 123;refine(ref02_in _ _ _ _).mono ?_;rintro e w' ⟨rfl,rfl⟩) | (go_at_call 57;refine(ref01_fits _ _ _ (by omega) (by omega)).mono ?_;rintro e w' ⟨rfl,rfl⟩))
 all_goals go_ret
 all_goals refine⟨ret_bool ?_,?_⟩
 all_goals first | (repeat (first | exact Below.refl _ _ | apply Below.drew | refine Below.alloc ?_ (by simp) _)) | skip
 all_goals simp_all[Ins.good,Ins.inb,Ins.uop,half4,half16,fits20,fits24]
 all_goals first | omega | (rw[Bool.eq_iff_iff];simp;omega)
theorem ref02_good_0ft (a b c op im:Int) (w:World) (ha:-9223372036854775808≤a) (ha':a≤9223372036854775807) (hb:-9223372036854775808≤b) (hb':b≤9223372036854775807) (hc:-9223372036854775808≤c) (hc':c≤9223372036854775807) (hop:-9223372036854775808≤op) (hop':op≤9223372036854775807) (him:-9223372036854775808≤im) (him':im≤9223372036854775807) :
  Calls Tryz.prog 91 #[Ins.val ⟨0,false,true,a,b,c,op,im⟩] w fun e w'=>e=.returned (.bool (Ins.good ⟨0,false,true,a,b,c,op,im⟩))∧Below w.heap.size w w':=by
 simp only[Ins.val,Ins.cells]
 go_enter Tryz.func91,Tryz.ntmps91
 go_wp2_with (first | (go_at_call 123;refine(ref02_in _ _ _ _).mono ?_;rintro e w' ⟨rfl,rfl⟩) | (go_at_call 57;refine(ref01_fits _ _ _ (by omega) (by omega)).mono ?_;rintro e w' ⟨rfl,rfl⟩))
 all_goals go_ret
 all_goals refine⟨ret_bool ?_,?_⟩
 all_goals first | (repeat (first | exact Below.refl _ _ | apply Below.drew | refine Below.alloc ?_ (by simp) _)) | skip
 all_goals simp_all[Ins.good,Ins.inb,Ins.uop,half4,half16,fits20,fits24]
 all_goals first | omega | (rw[Bool.eq_iff_iff];simp;omega)
theorem ref02_good_0ff (a b c op im:Int) (w:World) (ha:-9223372036854775808≤a) (ha':a≤9223372036854775807) (hb:-9223372036854775808≤b) (hb':b≤9223372036854775807) (hc:-9223372036854775808≤c) (hc':c≤9223372036854775807) (hop:-9223372036854775808≤op) (hop':op≤9223372036854775807) (him:-9223372036854775808≤im) (him':im≤9223372036854775807) :
  Calls Tryz.prog 91 #[Ins.val ⟨0,false,false,a,b,c,op,im⟩] w fun e w'=>e=.returned (.bool (Ins.good ⟨0,false,false,a,b,c,op,im⟩))∧Below w.heap.size w w':=by
 simp only[Ins.val,Ins.cells]
 go_enter Tryz.func91,Tryz.ntmps91
 go_wp2_with (first | (go_at_call 123;refine(ref02_in _ _ _ _).mono ?_;rintro e w' ⟨rfl,rfl⟩) | (go_at_call 57;refine(ref01_fits _ _ _ (by omega) (by omega)).mono ?_;rintro e w' ⟨rfl,rfl⟩))
 all_goals go_ret
 all_goals refine⟨ret_bool ?_,?_⟩
 all_goals first | (repeat (first | exact Below.refl _ _ | apply Below.drew | refine Below.alloc ?_ (by simp) _)) | skip
 all_goals simp_all[Ins.good,Ins.inb,Ins.uop,half4,half16,fits20,fits24]
 all_goals first | omega | (rw[Bool.eq_iff_iff];simp;omega)
end Go.Proofs.YtceflhffilldeaaGreat
namespace Go.Proofs.YtceflhffilldeaaGreat
open Go.RowKit Bw
theorem ref02_good_1tt (a b c op im:Int) (w:World) (ha:-9223372036854775808≤a) (ha':a≤9223372036854775807) (hb:-9223372036854775808≤b) (hb':b≤9223372036854775807) (hc:-9223372036854775808≤c) (hc':c≤9223372036854775807) (hop:-9223372036854775808≤op) (hop':op≤9223372036854775807) (him:-9223372036854775808≤im) (him':im≤9223372036854775807) :
  Calls Tryz.prog 91 #[Ins.val ⟨1,true,true,a,b,c,op,im⟩] w fun e w'=>e=.returned (.bool (Ins.good ⟨1,true,true,a,b,c,op,im⟩))∧Below w.heap.size w w':=by
 simp only[Ins.val,Ins.cells]
 go_enter Tryz.func91,Tryz.ntmps91
 go_wp2_with (first | (go_at_call 123;refine(ref02_in _ _ _ _).mono ?_;rintro e w' ⟨rfl,rfl⟩) | (go_at_call 57;refine(ref01_fits _ _ _ (by omega) (by omega)).mono ?_;rintro e w' ⟨rfl,rfl⟩))
 all_goals go_ret
 all_goals refine⟨ret_bool ?_,?_⟩
 all_goals first | (repeat (first | exact Below.refl _ _ | apply Below.drew | refine Below.alloc ?_ (by simp) _)) | skip
 all_goals simp_all[Ins.good,Ins.inb,Ins.uop,half4,half16,fits20,fits24]
 all_goals first | omega | (rw[Bool.eq_iff_iff];simp;omega)
theorem ref02_good_1tf (a b c op im:Int) (w:World) (ha:-9223372036854775808≤a) (ha':a≤9223372036854775807) (hb:-9223372036854775808≤b) (hb':b≤9223372036854775807) (hc:-9223372036854775808≤c) (hc':c≤9223372036854775807) (hop:-9223372036854775808≤op) (hop':op≤9223372036854775807) (him:-9223372036854775808≤im) (him':im≤9223372036854775807) :
  Calls Tryz.prog 91 #[Ins.val ⟨1,true,false,a,b,c,op,im⟩] w fun e w'=>e=.returned (.bool (Ins.good ⟨1,true,false,a,b,c,op,im⟩))∧Below w.heap.size w w':=by
 simp only[Ins.val,Ins.cells]
 go_enter Tryz.func91,Tryz.ntmps91
 go_wp2_with (first | (go_at_call 123;refine(ref02_in _ _ _ _).mono ?_;rintro e w' ⟨rfl,rfl⟩) | (go_at_call 57;refine(ref01_fits _ _ _ (by omega) (by omega)).mono ?_;rintro e w' ⟨rfl,rfl⟩))
 all_goals go_ret
 all_goals refine⟨ret_bool ?_,?_⟩
 all_goals first | (repeat (first | exact Below.refl _ _ | apply Below.drew | refine Below.alloc ?_ (by simp) _)) | skip
 all_goals simp_all[Ins.good,Ins.inb,Ins.uop,half4,half16,fits20,fits24]
 all_goals first | omega | (rw[Bool.eq_iff_iff];simp;omega)
theorem ref02_good_1ft (a b c op im:Int) (w:World) (ha:-9223372036854775808≤a) (ha':a≤9223372036854775807) (hb:-9223372036854775808≤b) (hb':b≤9223372036854775807) (hc:-9223372036854775808≤c) (hc':c≤9223372036854775807) (hop:-9223372036854775808≤op) (hop':op≤9223372036854775807) (him:-9223372036854775808≤im) (him':im≤9223372036854775807) :
  Calls Tryz.prog 91 #[Ins.val ⟨1,false,true,a,b,c,op,im⟩] w fun e w'=>e=.returned (.bool (Ins.good ⟨1,false,true,a,b,c,op,im⟩))∧Below w.heap.size w w':=by
 simp only[Ins.val,Ins.cells]
 go_enter Tryz.func91,Tryz.ntmps91
 go_wp2_with (first | (go_at_call 123;refine(ref02_in _ _ _ _).mono ?_;rintro e w' ⟨rfl,rfl⟩) | (go_at_call 57;refine(ref01_fits _ _ _ (by omega) (by omega)).mono ?_;rintro e w' ⟨rfl,rfl⟩))
 all_goals go_ret
 all_goals refine⟨ret_bool ?_,?_⟩
 all_goals first | (repeat (first | exact Below.refl _ _ | apply Below.drew | refine Below.alloc ?_ (by simp) _)) | skip
 all_goals simp_all[Ins.good,Ins.inb,Ins.uop,half4,half16,fits20,fits24]
 all_goals first | omega | (rw[Bool.eq_iff_iff];simp;omega)
theorem ref02_good_1ff (a b c op im:Int) (w:World) (ha:-9223372036854775808≤a) (ha':a≤9223372036854775807) (hb:-9223372036854775808≤b) (hb':b≤9223372036854775807) (hc:-9223372036854775808≤c) (hc':c≤9223372036854775807) (hop:-9223372036854775808≤op) (hop':op≤9223372036854775807) (him:-9223372036854775808≤im) (him':im≤9223372036854775807) :
  Calls Tryz.prog 91 #[Ins.val ⟨1,false,false,a,b,c,op,im⟩] w fun e w'=>e=.returned (.bool (Ins.good ⟨1,false,false,a,b,c,op,im⟩))∧Below w.heap.size w w':=by
 simp only[Ins.val,Ins.cells]
 go_enter Tryz.func91,Tryz.ntmps91
 go_wp2_with (first | (go_at_call 123;refine(ref02_in _ _ _ _).mono ?_;rintro e w' ⟨rfl,rfl⟩) | (go_at_call 57;refine(ref01_fits _ _ _ (by omega) (by omega)).mono ?_;rintro e w' ⟨rfl,rfl⟩))
 all_goals go_ret
 all_goals refine⟨ret_bool ?_,?_⟩
 all_goals first | (repeat (first | exact Below.refl _ _ | apply Below.drew | refine Below.alloc ?_ (by simp) _)) | skip
 all_goals simp_all[Ins.good,Ins.inb,Ins.uop,half4,half16,fits20,fits24]
 all_goals first | omega | (rw[Bool.eq_iff_iff];simp;omega)
end Go.Proofs.YtceflhffilldeaaGreat
namespace Go.Proofs.YtceflhffilldeaaGreat
open Go.RowKit Bw
theorem ref02_good_2tt (a b c op im:Int) (w:World) (ha:-9223372036854775808≤a) (ha':a≤9223372036854775807) (hb:-9223372036854775808≤b) (hb':b≤9223372036854775807) (hc:-9223372036854775808≤c) (hc':c≤9223372036854775807) (hop:-9223372036854775808≤op) (hop':op≤9223372036854775807) (him:-9223372036854775808≤im) (him':im≤9223372036854775807) :
  Calls Tryz.prog 91 #[Ins.val ⟨2,true,true,a,b,c,op,im⟩] w fun e w'=>e=.returned (.bool (Ins.good ⟨2,true,true,a,b,c,op,im⟩))∧Below w.heap.size w w':=by
 simp only[Ins.val,Ins.cells]
 go_enter Tryz.func91,Tryz.ntmps91
 go_wp2_with (first | (go_at_call 123;refine(ref02_in _ _ _ _).mono ?_;rintro e w' ⟨rfl,rfl⟩) | (go_at_call 57;refine(ref01_fits _ _ _ (by omega) (by omega)).mono ?_;rintro e w' ⟨rfl,rfl⟩))
 all_goals go_ret
 all_goals refine⟨ret_bool ?_,?_⟩
 all_goals first | (repeat (first | exact Below.refl _ _ | apply Below.drew | refine Below.alloc ?_ (by simp) _)) | skip
 all_goals simp_all[Ins.good,Ins.inb,Ins.uop,half4,half16,fits20,fits24]
 all_goals first | omega | (rw[Bool.eq_iff_iff];simp;omega)
theorem ref02_good_2tf (a b c op im:Int) (w:World) (ha:-9223372036854775808≤a) (ha':a≤9223372036854775807) (hb:-9223372036854775808≤b) (hb':b≤9223372036854775807) (hc:-9223372036854775808≤c) (hc':c≤9223372036854775807) (hop:-9223372036854775808≤op) (hop':op≤9223372036854775807) (him:-9223372036854775808≤im) (him':im≤9223372036854775807) :
  Calls Tryz.prog 91 #[Ins.val ⟨2,true,false,a,b,c,op,im⟩] w fun e w'=>e=.returned (.bool (Ins.good ⟨2,true,false,a,b,c,op,im⟩))∧Below w.heap.size w w':=by
 simp only[Ins.val,Ins.cells]
 go_enter Tryz.func91,Tryz.ntmps91
 go_wp2_with (first | (go_at_call 123;refine(ref02_in _ _ _ _).mono ?_;rintro e w' ⟨rfl,rfl⟩) | (go_at_call 57;refine(ref01_fits _ _ _ (by omega) (by omega)).mono ?_;rintro e w' ⟨rfl,rfl⟩))
 all_goals go_ret
 all_goals refine⟨ret_bool ?_,?_⟩
 all_goals first | (repeat (first | exact Below.refl _ _ | apply Below.drew | refine Below.alloc ?_ (by simp) _)) | skip
 all_goals simp_all[Ins.good,Ins.inb,Ins.uop,half4,half16,fits20,fits24]
 all_goals first | omega | (rw[Bool.eq_iff_iff];simp;omega)
theorem ref02_good_2ft (a b c op im:Int) (w:World) (ha:-9223372036854775808≤a) (ha':a≤9223372036854775807) (hb:-9223372036854775808≤b) (hb':b≤9223372036854775807) (hc:-9223372036854775808≤c) (hc':c≤9223372036854775807) (hop:-9223372036854775808≤op) (hop':op≤9223372036854775807) (him:-9223372036854775808≤im) (him':im≤9223372036854775807) :
  Calls Tryz.prog 91 #[Ins.val ⟨2,false,true,a,b,c,op,im⟩] w fun e w'=>e=.returned (.bool (Ins.good ⟨2,false,true,a,b,c,op,im⟩))∧Below w.heap.size w w':=by
 simp only[Ins.val,Ins.cells]
 go_enter Tryz.func91,Tryz.ntmps91
 go_wp2_with (first | (go_at_call 123;refine(ref02_in _ _ _ _).mono ?_;rintro e w' ⟨rfl,rfl⟩) | (go_at_call 57;refine(ref01_fits _ _ _ (by omega) (by omega)).mono ?_;rintro e w' ⟨rfl,rfl⟩))
 all_goals go_ret
 all_goals refine⟨ret_bool ?_,?_⟩
 all_goals first | (repeat (first | exact Below.refl _ _ | apply Below.drew | refine Below.alloc ?_ (by simp) _)) | skip
 all_goals simp_all[Ins.good,Ins.inb,Ins.uop,half4,half16,fits20,fits24]
 all_goals first | omega | (rw[Bool.eq_iff_iff];simp;omega)
theorem ref02_good_2ff (a b c op im:Int) (w:World) (ha:-9223372036854775808≤a) (ha':a≤9223372036854775807) (hb:-9223372036854775808≤b) (hb':b≤9223372036854775807) (hc:-9223372036854775808≤c) (hc':c≤9223372036854775807) (hop:-9223372036854775808≤op) (hop':op≤9223372036854775807) (him:-9223372036854775808≤im) (him':im≤9223372036854775807) :
  Calls Tryz.prog 91 #[Ins.val ⟨2,false,false,a,b,c,op,im⟩] w fun e w'=>e=.returned (.bool (Ins.good ⟨2,false,false,a,b,c,op,im⟩))∧Below w.heap.size w w':=by
 simp only[Ins.val,Ins.cells]
 go_enter Tryz.func91,Tryz.ntmps91
 go_wp2_with (first | (go_at_call 123;refine(ref02_in _ _ _ _).mono ?_;rintro e w' ⟨rfl,rfl⟩) | (go_at_call 57;refine(ref01_fits _ _ _ (by omega) (by omega)).mono ?_;rintro e w' ⟨rfl,rfl⟩))
 all_goals go_ret
 all_goals refine⟨ret_bool ?_,?_⟩
 all_goals first | (repeat (first | exact Below.refl _ _ | apply Below.drew | refine Below.alloc ?_ (by simp) _)) | skip
 all_goals simp_all[Ins.good,Ins.inb,Ins.uop,half4,half16,fits20,fits24]
 all_goals first | omega | (rw[Bool.eq_iff_iff];simp;omega)
end Go.Proofs.YtceflhffilldeaaGreat
namespace Go.Proofs.YtceflhffilldeaaGreat
open Go.RowKit Bw
theorem ref02_good_3tt (a b c op im:Int) (w:World) (ha:-9223372036854775808≤a) (ha':a≤9223372036854775807) (hb:-9223372036854775808≤b) (hb':b≤9223372036854775807) (hc:-9223372036854775808≤c) (hc':c≤9223372036854775807) (hop:-9223372036854775808≤op) (hop':op≤9223372036854775807) (him:-9223372036854775808≤im) (him':im≤9223372036854775807) :
  Calls Tryz.prog 91 #[Ins.val ⟨3,true,true,a,b,c,op,im⟩] w fun e w'=>e=.returned (.bool (Ins.good ⟨3,true,true,a,b,c,op,im⟩))∧Below w.heap.size w w':=by
 simp only[Ins.val,Ins.cells]
 go_enter Tryz.func91,Tryz.ntmps91
 go_wp2_with (first | (go_at_call 123;refine(ref02_in _ _ _ _).mono ?_;rintro e w' ⟨rfl,rfl⟩) | (go_at_call 57;refine(ref01_fits _ _ _ (by omega) (by omega)).mono ?_;rintro e w' ⟨rfl,rfl⟩))
 all_goals go_ret
 all_goals refine⟨ret_bool ?_,?_⟩
 all_goals first | (repeat (first | exact Below.refl _ _ | apply Below.drew | refine Below.alloc ?_ (by simp) _)) | skip
 all_goals simp_all[Ins.good,Ins.inb,Ins.uop,half4,half16,fits20,fits24]
 all_goals first | omega | (rw[Bool.eq_iff_iff];simp;omega)
theorem ref02_good_3tf (a b c op im:Int) (w:World) (ha:-9223372036854775808≤a) (ha':a≤9223372036854775807) (hb:-9223372036854775808≤b) (hb':b≤9223372036854775807) (hc:-9223372036854775808≤c) (hc':c≤9223372036854775807) (hop:-9223372036854775808≤op) (hop':op≤9223372036854775807) (him:-9223372036854775808≤im) (him':im≤9223372036854775807) :
  Calls Tryz.prog 91 #[Ins.val ⟨3,true,false,a,b,c,op,im⟩] w fun e w'=>e=.returned (.bool (Ins.good ⟨3,true,false,a,b,c,op,im⟩))∧Below w.heap.size w w':=by
 simp only[Ins.val,Ins.cells]
 go_enter Tryz.func91,Tryz.ntmps91
 go_wp2_with (first | (go_at_call 123;refine(ref02_in _ _ _ _).mono ?_;rintro e w' ⟨rfl,rfl⟩) | (go_at_call 57;refine(ref01_fits _ _ _ (by omega) (by omega)).mono ?_;rintro e w' ⟨rfl,rfl⟩))
 all_goals go_ret
 all_goals refine⟨ret_bool ?_,?_⟩
 all_goals first | (repeat (first | exact Below.refl _ _ | apply Below.drew | refine Below.alloc ?_ (by simp) _)) | skip
 all_goals simp_all[Ins.good,Ins.inb,Ins.uop,half4,half16,fits20,fits24]
 all_goals first | omega | (rw[Bool.eq_iff_iff];simp;omega)
theorem ref02_good_3ft (a b c op im:Int) (w:World) (ha:-9223372036854775808≤a) (ha':a≤9223372036854775807) (hb:-9223372036854775808≤b) (hb':b≤9223372036854775807) (hc:-9223372036854775808≤c) (hc':c≤9223372036854775807) (hop:-9223372036854775808≤op) (hop':op≤9223372036854775807) (him:-9223372036854775808≤im) (him':im≤9223372036854775807) :
  Calls Tryz.prog 91 #[Ins.val ⟨3,false,true,a,b,c,op,im⟩] w fun e w'=>e=.returned (.bool (Ins.good ⟨3,false,true,a,b,c,op,im⟩))∧Below w.heap.size w w':=by
 simp only[Ins.val,Ins.cells]
 go_enter Tryz.func91,Tryz.ntmps91
 go_wp2_with (first | (go_at_call 123;refine(ref02_in _ _ _ _).mono ?_;rintro e w' ⟨rfl,rfl⟩) | (go_at_call 57;refine(ref01_fits _ _ _ (by omega) (by omega)).mono ?_;rintro e w' ⟨rfl,rfl⟩))
 all_goals go_ret
 all_goals refine⟨ret_bool ?_,?_⟩
 all_goals first | (repeat (first | exact Below.refl _ _ | apply Below.drew | refine Below.alloc ?_ (by simp) _)) | skip
 all_goals simp_all[Ins.good,Ins.inb,Ins.uop,half4,half16,fits20,fits24]
 all_goals first | omega | (rw[Bool.eq_iff_iff];simp;omega)
theorem ref02_good_3ff (a b c op im:Int) (w:World) (ha:-9223372036854775808≤a) (ha':a≤9223372036854775807) (hb:-9223372036854775808≤b) (hb':b≤9223372036854775807) (hc:-9223372036854775808≤c) (hc':c≤9223372036854775807) (hop:-9223372036854775808≤op) (hop':op≤9223372036854775807) (him:-9223372036854775808≤im) (him':im≤9223372036854775807) :
  Calls Tryz.prog 91 #[Ins.val ⟨3,false,false,a,b,c,op,im⟩] w fun e w'=>e=.returned (.bool (Ins.good ⟨3,false,false,a,b,c,op,im⟩))∧Below w.heap.size w w':=by
 simp only[Ins.val,Ins.cells]
 go_enter Tryz.func91,Tryz.ntmps91
 go_wp2_with (first | (go_at_call 123;refine(ref02_in _ _ _ _).mono ?_;rintro e w' ⟨rfl,rfl⟩) | (go_at_call 57;refine(ref01_fits _ _ _ (by omega) (by omega)).mono ?_;rintro e w' ⟨rfl,rfl⟩))
 all_goals go_ret
 all_goals refine⟨ret_bool ?_,?_⟩
 all_goals first | (repeat (first | exact Below.refl _ _ | apply Below.drew | refine Below.alloc ?_ (by simp) _)) | skip
 all_goals simp_all[Ins.good,Ins.inb,Ins.uop,half4,half16,fits20,fits24]
 all_goals first | omega | (rw[Bool.eq_iff_iff];simp;omega)
end Go.Proofs.YtceflhffilldeaaGreat
namespace Go.Proofs.YtceflhffilldeaaGreat
open Go.RowKit Bw
theorem ret_two' {k1 k2:IntKind} {a b c d:Int} (h:a=b) (h':c=d):Ending.returned (.tuple #[.int k1 a,.int k2 c])=.returned (.tuple #[.int k1 b,.int k2 d]):=by rw[h,h']
theorem below_drewN' {B:Nat} {a w:World} (h:Below B a w) (n:Nat):Below B a (w.drewN n):=⟨h.os,h.tape,h.output,h.size,h.block⟩
theorem below_call' {w w1 w2:World} (h:Below w.heap.size w w1) (hb:Below w1.heap.size w1 w2):Below w.heap.size w w2:=h.trans (hb.mono h.size)
theorem ref02_good_other (x:Ins) (w:World) (hx:x.fits) (h0:(x.form==0)=false) (h1:(x.form==1)=false) (h2:(x.form==2)=false) (h3:(x.form==3)=false) :
  Calls Tryz.prog 91 #[x.val] w fun e w'=>e=.returned (.bool x.good)∧Below w.heap.size w w':=by
 obtain⟨form,u,v,a,b,c,op,im⟩:=x
 obtain⟨f1,f2,a1,a2,b1,b2,c1,c2,o1,o2,i1,i2⟩:=hx
 simp only at *
 have HG:=Lib.hid (show Ins.good ⟨form,u,v,a,b,c,op,im⟩=false by simp_all[Ins.good])
 simp only[Ins.val,Ins.cells]
 go_enter Tryz.func91,Tryz.ntmps91
 go_wp2_with (go_at_call 123;refine(ref02_in _ _ _ _).mono ?_;rintro e w' ⟨rfl,rfl⟩)
 all_goals go_ret
 all_goals refine⟨ret_bool HG.out.symm,?_⟩
 all_goals (repeat (first | exact Below.refl _ _ | apply Below.drew | refine Below.alloc ?_ (by simp) _))
theorem ref02_good (x:Ins) (w:World) (hx:x.fits) :
  Calls Tryz.prog 91 #[x.val] w fun e w'=>e=.returned (.bool x.good)∧Below w.heap.size w w':=by
 by_cases h0:x.form=0
 ·obtain⟨form,u,v,a,b,c,op,im⟩:=x
  obtain⟨f1,f2,a1,a2,b1,b2,c1,c2,o1,o2,i1,i2⟩:=hx
  simp only at h0
  subst h0
  cases u<;>cases v
  ·exact ref02_good_0ff a b c op im w a1 a2 b1 b2 c1 c2 o1 o2 i1 i2
  ·exact ref02_good_0ft a b c op im w a1 a2 b1 b2 c1 c2 o1 o2 i1 i2
  ·exact ref02_good_0tf a b c op im w a1 a2 b1 b2 c1 c2 o1 o2 i1 i2
  ·exact ref02_good_0tt a b c op im w a1 a2 b1 b2 c1 c2 o1 o2 i1 i2
 by_cases h1:x.form=1
 ·obtain⟨form,u,v,a,b,c,op,im⟩:=x
  obtain⟨f1,f2,a1,a2,b1,b2,c1,c2,o1,o2,i1,i2⟩:=hx
  simp only at h1
  subst h1
  cases u<;>cases v
  ·exact ref02_good_1ff a b c op im w a1 a2 b1 b2 c1 c2 o1 o2 i1 i2
  ·exact ref02_good_1ft a b c op im w a1 a2 b1 b2 c1 c2 o1 o2 i1 i2
  ·exact ref02_good_1tf a b c op im w a1 a2 b1 b2 c1 c2 o1 o2 i1 i2
  ·exact ref02_good_1tt a b c op im w a1 a2 b1 b2 c1 c2 o1 o2 i1 i2
 by_cases h2:x.form=2
 ·obtain⟨form,u,v,a,b,c,op,im⟩:=x
  obtain⟨f1,f2,a1,a2,b1,b2,c1,c2,o1,o2,i1,i2⟩:=hx
  simp only at h2
  subst h2
  cases u<;>cases v
  ·exact ref02_good_2ff a b c op im w a1 a2 b1 b2 c1 c2 o1 o2 i1 i2
  ·exact ref02_good_2ft a b c op im w a1 a2 b1 b2 c1 c2 o1 o2 i1 i2
  ·exact ref02_good_2tf a b c op im w a1 a2 b1 b2 c1 c2 o1 o2 i1 i2
  ·exact ref02_good_2tt a b c op im w a1 a2 b1 b2 c1 c2 o1 o2 i1 i2
 by_cases h3:x.form=3
 ·obtain⟨form,u,v,a,b,c,op,im⟩:=x
  obtain⟨f1,f2,a1,a2,b1,b2,c1,c2,o1,o2,i1,i2⟩:=hx
  simp only at h3
  subst h3
  cases u<;>cases v
  ·exact ref02_good_3ff a b c op im w a1 a2 b1 b2 c1 c2 o1 o2 i1 i2
  ·exact ref02_good_3ft a b c op im w a1 a2 b1 b2 c1 c2 o1 o2 i1 i2
  ·exact ref02_good_3tf a b c op im w a1 a2 b1 b2 c1 c2 o1 o2 i1 i2
  ·exact ref02_good_3tt a b c op im w a1 a2 b1 b2 c1 c2 o1 o2 i1 i2
 exact ref02_good_other x w hx (by simpa using h0) (by simpa using h1) (by simpa using h2) (by simpa using h3)
theorem ref02_encode_none (x:Ins) (w:World) (hx:x.fits) (hg:x.good=false) :
  Calls Tryz.prog 61 #[x.val] w fun e w'=>e=.returned (.tuple #[.int .u32 0,.int .i64 20])∧Below w.heap.size w w':=by
 have HG:=fun W=>(ref02_good x W hx)
 rw[hg] at HG
 obtain⟨form,u,v,a,b,c,op,im⟩:=x
 simp only[Ins.val,Ins.cells] at *
 have H:=fun W=>Lib.hid (HG W)
 clear HG hx hg
 go_enter Tryz.func61,Tryz.ntmps61
 go_wp2_with fail
 refine(H _).out.mono ?_
 rintro e w' ⟨rfl,hb⟩
 go_wp2_with fail
 go_ret2
 exact⟨rfl,below_call' ((Below.refl _ _).alloc (Nat.le_refl _) _) hb⟩
theorem ref02_encode_0 (u v:Bool) (a b c op im:Int) (w:World) (hx:Ins.fits ⟨0,u,v,a,b,c,op,im⟩) (hg:Ins.good ⟨0,u,v,a,b,c,op,im⟩=true) :
  Calls Tryz.prog 61 #[Ins.val ⟨0,u,v,a,b,c,op,im⟩] w fun e w'=>e=.returned (.tuple #[.int .u32 (Ins.enc ⟨0,u,v,a,b,c,op,im⟩),.int .i64 0])∧Below w.heap.size w w':=by
 have HG:=fun W=>(ref02_good ⟨0,u,v,a,b,c,op,im⟩ W hx)
 rw[hg] at HG
 have hr:=Ins.good_range _ hg
 simp only at hr
 obtain⟨-,-,r1,r2,r3,r4,r5,r6,r7,r8⟩:=hr
 obtain⟨-,-,-,-,-,-,-,-,-,-,i1,i2⟩:=hx
 simp only at i1 i2
 have hI:=Ins.good_im0 u v a b c op im hg
 have hJ:=Lib.hid (Ins.good_ci 0 u v a b c op im hg)
 have b1:=Ins.bit_bd u
 have b2:=Ins.bit_bd v
 simp only[Ins.val,Ins.cells] at *
 have H:=fun W=>Lib.hid (HG W)
 clear HG hg
 go_enter Tryz.func61,Tryz.ntmps61
 go_wp2_with fail
 refine(H _).out.mono ?_
 rintro e w' ⟨rfl,hb⟩
 obtain⟨hc,hf⟩:=bcell hb
 go_wp2_with fail
 refine(ref01_put (0) 30 2 (0) _ (by omega) (by omega) (by omega) (by omega) (by omega) (by omega) (by omega) (by omega)).mono ?_
 rintro e w' ⟨rfl,d0,rfl⟩
 rw[put_30_2 (0) (0) (by omega),show ((0:Int)) % 4=0 by omega]
 go_wp2_with fail
 refine(ref02_bit u _).mono ?_
 rintro e w' ⟨rfl,rfl⟩
 go_wp2_with fail
 refine(ref01_put (0) 29 1 (Ins.bit u) _ (by omega) (by omega) (by omega) (by omega) (by omega) (by omega) (by omega) (by omega)).mono ?_
 rintro e w' ⟨rfl,d2,rfl⟩
 rw[put_29_1 (0) (Ins.bit u) (by omega),show ((Ins.bit u:Int)) % 2=Ins.bit u by omega]
 go_wp2_with fail
 refine(ref02_bit v _).mono ?_
 rintro e w' ⟨rfl,rfl⟩
 go_wp2_with fail
 refine(ref01_put (Ins.bit u*536870912) 28 1 (Ins.bit v) _ (by omega) (by omega) (by omega) (by omega) (by omega) (by omega) (by omega) (by omega)).mono ?_
 rintro e w' ⟨rfl,d4,rfl⟩
 rw[put_28_1 (Ins.bit u*536870912) (Ins.bit v) (by omega),show ((Ins.bit v:Int)) % 2=Ins.bit v by omega]
 go_wp2_with fail
 refine(ref01_put (Ins.bit u*536870912+Ins.bit v*268435456) 24 4 (a) _ (by omega) (by omega) (by omega) (by omega) (by omega) (by omega) (by omega) (by omega)).mono ?_
 rintro e w' ⟨rfl,d5,rfl⟩
 rw[put_24_4 (Ins.bit u*536870912+Ins.bit v*268435456) (a) (by omega),show ((a:Int)) % 16=a by omega]
 go_wp2_with fail
 refine(ref01_put (Ins.bit u*536870912+Ins.bit v*268435456+a*16777216) 20 4 (b) _ (by omega) (by omega) (by omega) (by omega) (by omega) (by omega) (by omega) (by omega)).mono ?_
 rintro e w' ⟨rfl,d6,rfl⟩
 rw[put_20_4 (Ins.bit u*536870912+Ins.bit v*268435456+a*16777216) (b) (by omega),show ((b:Int)) % 16=b by omega]
 go_wp2_with fail
 refine(ref01_put (Ins.bit u*536870912+Ins.bit v*268435456+a*16777216+b*1048576) 16 4 (op) _ (by omega) (by omega) (by omega) (by omega) (by omega) (by omega) (by omega) (by omega)).mono ?_
 rintro e w' ⟨rfl,d7,rfl⟩
 rw[put_16_4 (Ins.bit u*536870912+Ins.bit v*268435456+a*16777216+b*1048576) (op) (by omega),show ((op:Int)) % 16=op by omega]
 go_wp2_with fail
 refine(ref01_put (Ins.bit u*536870912+Ins.bit v*268435456+a*16777216+b*1048576+op*65536) 0 4 (c) _ (by omega) (by omega) (by omega) (by omega) (by omega) (by omega) (by omega) (by omega)).mono ?_
 rintro e w' ⟨rfl,d8,rfl⟩
 rw[put_0_4 (Ins.bit u*536870912+Ins.bit v*268435456+a*16777216+b*1048576+op*65536) (c) (by omega),show ((c:Int)) % 16=c by omega]
 go_wp2_with fail
 go_ret2
 exact⟨ret_two' (by have hJ:=hJ.out;rw[enc_ref];simp at hJ ⊢;omega) rfl,by repeat (first | exact below_call' ((Below.refl _ _).alloc (Nat.le_refl _) _) hb | refine below_drewN' ?_ _)⟩
theorem ref02_encode_1 (u v:Bool) (a b c op im:Int) (w:World) (hx:Ins.fits ⟨1,u,v,a,b,c,op,im⟩) (hg:Ins.good ⟨1,u,v,a,b,c,op,im⟩=true) :
  Calls Tryz.prog 61 #[Ins.val ⟨1,u,v,a,b,c,op,im⟩] w fun e w'=>e=.returned (.tuple #[.int .u32 (Ins.enc ⟨1,u,v,a,b,c,op,im⟩),.int .i64 0])∧Below w.heap.size w w':=by
 have HG:=fun W=>(ref02_good ⟨1,u,v,a,b,c,op,im⟩ W hx)
 rw[hg] at HG
 have hr:=Ins.good_range _ hg
 simp only at hr
 obtain⟨-,-,r1,r2,r3,r4,r5,r6,r7,r8⟩:=hr
 obtain⟨-,-,-,-,-,-,-,-,-,-,i1,i2⟩:=hx
 simp only at i1 i2
 have hI:=Ins.good_im1 u v a b c op im hg
 have hJ:=Lib.hid (Ins.good_ci 1 u v a b c op im hg)
 have b1:=Ins.bit_bd u
 have b2:=Ins.bit_bd v
 simp only[Ins.val,Ins.cells] at *
 have H:=fun W=>Lib.hid (HG W)
 clear HG hg
 go_enter Tryz.func61,Tryz.ntmps61
 go_wp2_with fail
 refine(H _).out.mono ?_
 rintro e w' ⟨rfl,hb⟩
 obtain⟨hc,hf⟩:=bcell hb
 go_wp2_with fail
 refine(ref01_put (0) 30 2 (1) _ (by omega) (by omega) (by omega) (by omega) (by omega) (by omega) (by omega) (by omega)).mono ?_
 rintro e w' ⟨rfl,d0,rfl⟩
 rw[put_30_2 (0) (1) (by omega),show ((1:Int)) % 4=1 by omega]
 go_wp2_with fail
 refine(ref02_bit u _).mono ?_
 rintro e w' ⟨rfl,rfl⟩
 go_wp2_with fail
 refine(ref01_put (1073741824) 29 1 (Ins.bit u) _ (by omega) (by omega) (by omega) (by omega) (by omega) (by omega) (by omega) (by omega)).mono ?_
 rintro e w' ⟨rfl,d2,rfl⟩
 rw[put_29_1 (1073741824) (Ins.bit u) (by omega),show ((Ins.bit u:Int)) % 2=Ins.bit u by omega]
 go_wp2_with fail
 refine(ref02_bit v _).mono ?_
 rintro e w' ⟨rfl,rfl⟩
 go_wp2_with fail
 refine(ref01_put (1073741824+Ins.bit u*536870912) 28 1 (Ins.bit v) _ (by omega) (by omega) (by omega) (by omega) (by omega) (by omega) (by omega) (by omega)).mono ?_
 rintro e w' ⟨rfl,d4,rfl⟩
 rw[put_28_1 (1073741824+Ins.bit u*536870912) (Ins.bit v) (by omega),show ((Ins.bit v:Int)) % 2=Ins.bit v by omega]
 go_wp2_with fail
 refine(ref01_put (1073741824+Ins.bit u*536870912+Ins.bit v*268435456) 24 4 (a) _ (by omega) (by omega) (by omega) (by omega) (by omega) (by omega) (by omega) (by omega)).mono ?_
 rintro e w' ⟨rfl,d5,rfl⟩
 rw[put_24_4 (1073741824+Ins.bit u*536870912+Ins.bit v*268435456) (a) (by omega),show ((a:Int)) % 16=a by omega]
 go_wp2_with fail
 refine(ref01_put (1073741824+Ins.bit u*536870912+Ins.bit v*268435456+a*16777216) 20 4 (b) _ (by omega) (by omega) (by omega) (by omega) (by omega) (by omega) (by omega) (by omega)).mono ?_
 rintro e w' ⟨rfl,d6,rfl⟩
 rw[put_20_4 (1073741824+Ins.bit u*536870912+Ins.bit v*268435456+a*16777216) (b) (by omega),show ((b:Int)) % 16=b by omega]
 go_wp2_with fail
 refine(ref01_put (1073741824+Ins.bit u*536870912+Ins.bit v*268435456+a*16777216+b*1048576) 16 4 (op) _ (by omega) (by omega) (by omega) (by omega) (by omega) (by omega) (by omega) (by omega)).mono ?_
 rintro e w' ⟨rfl,d7,rfl⟩
 rw[put_16_4 (1073741824+Ins.bit u*536870912+Ins.bit v*268435456+a*16777216+b*1048576) (op) (by omega),show ((op:Int)) % 16=op by omega]
 go_wp2_with fail
 refine(ref01_put (1073741824+Ins.bit u*536870912+Ins.bit v*268435456+a*16777216+b*1048576+op*65536) 0 16 (im) _ (by omega) (by omega) (by omega) (by omega) (by omega) (by omega) (by omega) (by omega)).mono ?_
 rintro e w' ⟨rfl,d8,rfl⟩
 rw[put_0_16 (1073741824+Ins.bit u*536870912+Ins.bit v*268435456+a*16777216+b*1048576+op*65536) (im) (by omega),show ((im:Int)) % 65536=im by omega]
 go_wp2_with fail
 go_ret2
 exact⟨ret_two' (by have hJ:=hJ.out;rw[enc_ref];simp at hJ ⊢;omega) rfl,by repeat (first | exact below_call' ((Below.refl _ _).alloc (Nat.le_refl _) _) hb | refine below_drewN' ?_ _)⟩
theorem ref02_encode_2 (u v:Bool) (a b c op im:Int) (w:World) (hx:Ins.fits ⟨2,u,v,a,b,c,op,im⟩) (hg:Ins.good ⟨2,u,v,a,b,c,op,im⟩=true) :
  Calls Tryz.prog 61 #[Ins.val ⟨2,u,v,a,b,c,op,im⟩] w fun e w'=>e=.returned (.tuple #[.int .u32 (Ins.enc ⟨2,u,v,a,b,c,op,im⟩),.int .i64 0])∧Below w.heap.size w w':=by
 have HG:=fun W=>(ref02_good ⟨2,u,v,a,b,c,op,im⟩ W hx)
 rw[hg] at HG
 have hr:=Ins.good_range _ hg
 simp only at hr
 obtain⟨-,-,r1,r2,r3,r4,r5,r6,r7,r8⟩:=hr
 obtain⟨-,-,-,-,-,-,-,-,-,-,i1,i2⟩:=hx
 simp only at i1 i2
 have hI:=Ins.good_im2 u v a b c op im hg
 have hJ:=Lib.hid (Ins.good_ci 2 u v a b c op im hg)
 have b1:=Ins.bit_bd u
 have b2:=Ins.bit_bd v
 simp only[Ins.val,Ins.cells] at *
 have H:=fun W=>Lib.hid (HG W)
 clear HG hg
 go_enter Tryz.func61,Tryz.ntmps61
 go_wp2_with fail
 refine(H _).out.mono ?_
 rintro e w' ⟨rfl,hb⟩
 obtain⟨hc,hf⟩:=bcell hb
 go_wp2_with fail
 refine(ref01_put (0) 30 2 (2) _ (by omega) (by omega) (by omega) (by omega) (by omega) (by omega) (by omega) (by omega)).mono ?_
 rintro e w' ⟨rfl,d0,rfl⟩
 rw[put_30_2 (0) (2) (by omega),show ((2:Int)) % 4=2 by omega]
 go_wp2_with fail
 refine(ref02_bit u _).mono ?_
 rintro e w' ⟨rfl,rfl⟩
 go_wp2_with fail
 refine(ref01_put (2147483648) 29 1 (Ins.bit u) _ (by omega) (by omega) (by omega) (by omega) (by omega) (by omega) (by omega) (by omega)).mono ?_
 rintro e w' ⟨rfl,d2,rfl⟩
 rw[put_29_1 (2147483648) (Ins.bit u) (by omega),show ((Ins.bit u:Int)) % 2=Ins.bit u by omega]
 go_wp2_with fail
 refine(ref02_bit v _).mono ?_
 rintro e w' ⟨rfl,rfl⟩
 go_wp2_with fail
 refine(ref01_put (2147483648+Ins.bit u*536870912) 28 1 (Ins.bit v) _ (by omega) (by omega) (by omega) (by omega) (by omega) (by omega) (by omega) (by omega)).mono ?_
 rintro e w' ⟨rfl,d4,rfl⟩
 rw[put_28_1 (2147483648+Ins.bit u*536870912) (Ins.bit v) (by omega),show ((Ins.bit v:Int)) % 2=Ins.bit v by omega]
 go_wp2_with fail
 refine(ref01_put (2147483648+Ins.bit u*536870912+Ins.bit v*268435456) 24 4 (a) _ (by omega) (by omega) (by omega) (by omega) (by omega) (by omega) (by omega) (by omega)).mono ?_
 rintro e w' ⟨rfl,d5,rfl⟩
 rw[put_24_4 (2147483648+Ins.bit u*536870912+Ins.bit v*268435456) (a) (by omega),show ((a:Int)) % 16=a by omega]
 go_wp2_with fail
 refine(ref01_put (2147483648+Ins.bit u*536870912+Ins.bit v*268435456+a*16777216) 20 4 (b) _ (by omega) (by omega) (by omega) (by omega) (by omega) (by omega) (by omega) (by omega)).mono ?_
 rintro e w' ⟨rfl,d6,rfl⟩
 rw[put_20_4 (2147483648+Ins.bit u*536870912+Ins.bit v*268435456+a*16777216) (b) (by omega),show ((b:Int)) % 16=b by omega]
 go_wp2_with fail
 refine(ref01_word im _ i1 i2).mono ?_
 rintro e w' ⟨rfl,rfl⟩
 go_wp2_with fail
 refine(ref01_put (2147483648+Ins.bit u*536870912+Ins.bit v*268435456+a*16777216+b*1048576) 0 20 (im % 4294967296) _ (by omega) (by omega) (by omega) (by omega) (by omega) (by omega) (by omega) (by omega)).mono ?_
 rintro e w' ⟨rfl,d8,rfl⟩
 rw[put_0_20 (2147483648+Ins.bit u*536870912+Ins.bit v*268435456+a*16777216+b*1048576) (im % 4294967296) (by omega),show ((im % 4294967296:Int)) % 1048576=im % 1048576 by omega]
 go_wp2_with fail
 go_ret2
 exact⟨ret_two' (by have hJ:=hJ.out;rw[enc_ref];simp at hJ ⊢;omega) rfl,by repeat (first | exact below_call' ((Below.refl _ _).alloc (Nat.le_refl _) _) hb | refine below_drewN' ?_ _)⟩
theorem ref02_encode_3t (v:Bool) (a b c op im:Int) (w:World) (hx:Ins.fits ⟨3,true,v,a,b,c,op,im⟩) (hg:Ins.good ⟨3,true,v,a,b,c,op,im⟩=true) :
  Calls Tryz.prog 61 #[Ins.val ⟨3,true,v,a,b,c,op,im⟩] w fun e w'=>e=.returned (.tuple #[.int .u32 (Ins.enc ⟨3,true,v,a,b,c,op,im⟩),.int .i64 0])∧Below w.heap.size w w':=by
 have HG:=fun W=>(ref02_good ⟨3,true,v,a,b,c,op,im⟩ W hx)
 rw[hg] at HG
 have hr:=Ins.good_range _ hg
 simp only at hr
 obtain⟨-,-,r1,r2,r3,r4,r5,r6,r7,r8⟩:=hr
 obtain⟨-,-,-,-,-,-,-,-,-,-,i1,i2⟩:=hx
 simp only at i1 i2
 have hI:=Ins.good_im3 true v a b c op im hg
 have hJ:=Lib.hid (Ins.good_ci 3 true v a b c op im hg)
 have b1:=Ins.bit_bd true
 have b2:=Ins.bit_bd v
 simp only[Ins.val,Ins.cells] at *
 have H:=fun W=>Lib.hid (HG W)
 clear HG hg
 go_enter Tryz.func61,Tryz.ntmps61
 go_wp2_with fail
 refine(H _).out.mono ?_
 rintro e w' ⟨rfl,hb⟩
 obtain⟨hc,hf⟩:=bcell hb
 go_wp2_with fail
 refine(ref01_put (0) 30 2 (3) _ (by omega) (by omega) (by omega) (by omega) (by omega) (by omega) (by omega) (by omega)).mono ?_
 rintro e w' ⟨rfl,d0,rfl⟩
 rw[put_30_2 (0) (3) (by omega),show ((3:Int)) % 4=3 by omega]
 go_wp2_with fail
 refine(ref02_bit true _).mono ?_
 rintro e w' ⟨rfl,rfl⟩
 go_wp2_with fail
 refine(ref01_put (3221225472) 29 1 (Ins.bit true) _ (by omega) (by omega) (by omega) (by omega) (by omega) (by omega) (by omega) (by omega)).mono ?_
 rintro e w' ⟨rfl,d2,rfl⟩
 rw[put_29_1 (3221225472) (Ins.bit true) (by omega),show ((Ins.bit true:Int)) % 2=Ins.bit true by omega]
 go_wp2_with fail
 refine(ref02_bit v _).mono ?_
 rintro e w' ⟨rfl,rfl⟩
 go_wp2_with fail
 refine(ref01_put (3221225472+Ins.bit true*536870912) 28 1 (Ins.bit v) _ (by omega) (by omega) (by omega) (by omega) (by omega) (by omega) (by omega) (by omega)).mono ?_
 rintro e w' ⟨rfl,d4,rfl⟩
 rw[put_28_1 (3221225472+Ins.bit true*536870912) (Ins.bit v) (by omega),show ((Ins.bit v:Int)) % 2=Ins.bit v by omega]
 go_wp2_with fail
 refine(ref01_put (3221225472+Ins.bit true*536870912+Ins.bit v*268435456) 24 4 (a) _ (by omega) (by omega) (by omega) (by omega) (by omega) (by omega) (by omega) (by omega)).mono ?_
 rintro e w' ⟨rfl,d5,rfl⟩
 rw[put_24_4 (3221225472+Ins.bit true*536870912+Ins.bit v*268435456) (a) (by omega),show ((a:Int)) % 16=a by omega]
 go_wp2_with fail
 refine(ref01_word im _ i1 i2).mono ?_
 rintro e w' ⟨rfl,rfl⟩
 go_wp2_with fail
 refine(ref01_put (3221225472+Ins.bit true*536870912+Ins.bit v*268435456+a*16777216) 0 24 (im % 4294967296) _ (by omega) (by omega) (by omega) (by omega) (by omega) (by omega) (by omega) (by omega)).mono ?_
 rintro e w' ⟨rfl,d7,rfl⟩
 rw[put_0_24 (3221225472+Ins.bit true*536870912+Ins.bit v*268435456+a*16777216) (im % 4294967296) (by omega),show ((im % 4294967296:Int)) % 16777216=im % 16777216 by omega]
 go_wp2_with fail
 go_ret2
 exact⟨ret_two' (by have hJ:=hJ.out;rw[enc_ref];simp at hJ ⊢;omega) rfl,by repeat (first | exact below_call' ((Below.refl _ _).alloc (Nat.le_refl _) _) hb | refine below_drewN' ?_ _)⟩
theorem ref02_encode_3f (v:Bool) (a b c op im:Int) (w:World) (hx:Ins.fits ⟨3,false,v,a,b,c,op,im⟩) (hg:Ins.good ⟨3,false,v,a,b,c,op,im⟩=true) :
  Calls Tryz.prog 61 #[Ins.val ⟨3,false,v,a,b,c,op,im⟩] w fun e w'=>e=.returned (.tuple #[.int .u32 (Ins.enc ⟨3,false,v,a,b,c,op,im⟩),.int .i64 0])∧Below w.heap.size w w':=by
 have HG:=fun W=>(ref02_good ⟨3,false,v,a,b,c,op,im⟩ W hx)
 rw[hg] at HG
 have hr:=Ins.good_range _ hg
 simp only at hr
 obtain⟨-,-,r1,r2,r3,r4,r5,r6,r7,r8⟩:=hr
 obtain⟨-,-,-,-,-,-,-,-,-,-,i1,i2⟩:=hx
 simp only at i1 i2
 have hI:=Ins.good_im3 false v a b c op im hg
 have hJ:=Lib.hid (Ins.good_ci 3 false v a b c op im hg)
 have b1:=Ins.bit_bd false
 have b2:=Ins.bit_bd v
 simp only[Ins.val,Ins.cells] at *
 have H:=fun W=>Lib.hid (HG W)
 clear HG hg
 go_enter Tryz.func61,Tryz.ntmps61
 go_wp2_with fail
 refine(H _).out.mono ?_
 rintro e w' ⟨rfl,hb⟩
 obtain⟨hc,hf⟩:=bcell hb
 go_wp2_with fail
 refine(ref01_put (0) 30 2 (3) _ (by omega) (by omega) (by omega) (by omega) (by omega) (by omega) (by omega) (by omega)).mono ?_
 rintro e w' ⟨rfl,d0,rfl⟩
 rw[put_30_2 (0) (3) (by omega),show ((3:Int)) % 4=3 by omega]
 go_wp2_with fail
 refine(ref02_bit false _).mono ?_
 rintro e w' ⟨rfl,rfl⟩
 go_wp2_with fail
 refine(ref01_put (3221225472) 29 1 (Ins.bit false) _ (by omega) (by omega) (by omega) (by omega) (by omega) (by omega) (by omega) (by omega)).mono ?_
 rintro e w' ⟨rfl,d2,rfl⟩
 rw[put_29_1 (3221225472) (Ins.bit false) (by omega),show ((Ins.bit false:Int)) % 2=Ins.bit false by omega]
 go_wp2_with fail
 refine(ref02_bit v _).mono ?_
 rintro e w' ⟨rfl,rfl⟩
 go_wp2_with fail
 refine(ref01_put (3221225472+Ins.bit false*536870912) 28 1 (Ins.bit v) _ (by omega) (by omega) (by omega) (by omega) (by omega) (by omega) (by omega) (by omega)).mono ?_
 rintro e w' ⟨rfl,d4,rfl⟩
 rw[put_28_1 (3221225472+Ins.bit false*536870912) (Ins.bit v) (by omega),show ((Ins.bit v:Int)) % 2=Ins.bit v by omega]
 go_wp2_with fail
 refine(ref01_put (3221225472+Ins.bit false*536870912+Ins.bit v*268435456) 24 4 (a) _ (by omega) (by omega) (by omega) (by omega) (by omega) (by omega) (by omega) (by omega)).mono ?_
 rintro e w' ⟨rfl,d5,rfl⟩
 rw[put_24_4 (3221225472+Ins.bit false*536870912+Ins.bit v*268435456) (a) (by omega),show ((a:Int)) % 16=a by omega]
 go_wp2_with fail
 refine(ref01_put (3221225472+Ins.bit false*536870912+Ins.bit v*268435456+a*16777216) 0 4 (c) _ (by omega) (by omega) (by omega) (by omega) (by omega) (by omega) (by omega) (by omega)).mono ?_
 rintro e w' ⟨rfl,d6,rfl⟩
 rw[put_0_4 (3221225472+Ins.bit false*536870912+Ins.bit v*268435456+a*16777216) (c) (by omega),show ((c:Int)) % 16=c by omega]
 go_wp2_with fail
 go_ret2
 exact⟨ret_two' (by have hJ:=hJ.out;rw[enc_ref];simp at hJ ⊢;omega) rfl,by repeat (first | exact below_call' ((Below.refl _ _).alloc (Nat.le_refl _) _) hb | refine below_drewN' ?_ _)⟩
theorem ref02_encode (x:Ins) (w:World) (hx:x.fits) (hg:x.good=true) :
  Calls Tryz.prog 61 #[x.val] w fun e w'=>e=.returned (.tuple #[.int .u32 x.enc,.int .i64 0])∧Below w.heap.size w w':=by
 have hr:=Ins.good_range _ hg
 obtain⟨form,u,v,a,b,c,op,im⟩:=x
 simp only at hr
 have h4:form=0∨form=1∨form=2∨form=3:=by omega
 rcases h4 with rfl | rfl | rfl | rfl
 ·exact ref02_encode_0 u v a b c op im w hx hg
 ·exact ref02_encode_1 u v a b c op im w hx hg
 ·exact ref02_encode_2 u v a b c op im w hx hg
 ·cases u
  ·exact ref02_encode_3f v a b c op im w hx hg
  ·exact ref02_encode_3t v a b c op im w hx hg
end Go.Proofs.YtceflhffilldeaaGreat
