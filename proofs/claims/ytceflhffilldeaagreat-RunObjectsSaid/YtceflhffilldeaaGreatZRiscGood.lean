/-
  Joined: ZRiscGood.
-/
import Derived.Test.YtceflhffilldeaaGreatZBits
set_option linter.unusedVariables false
set_option linter.unusedSimpArgs false
set_option maxRecDepth 100000
set_option maxHeartbeats 16000000
namespace Go.Proofs.YtceflhffilldeaaGreat
open Go.RowKit Bw
theorem risc_half (v n:Int) (w:World) (hv:-9223372036854775808≤v) (hv':v≤9223372036854775807) (hn:1≤n) (hn':n≤62) :
  Calls Tryz.prog 177 #[.int .i64 v,.int .i64 n] w fun e w'=>e=.returned (.bool (Ins.half v n))∧w=w':=by
 have h1:=wrap64_pow n.toNat (by omega)
 go_enter Tryz.func177,Tryz.ntmps177
 go_wp2
 all_goals go_ret
 all_goals refine⟨ret_bool ?_,rfl⟩
 all_goals (rw[Bool.eq_iff_iff];simp only[Ins.half,decide_eq_true_eq];simp;omega)
end Go.Proofs.YtceflhffilldeaaGreat
namespace Go.Proofs.YtceflhffilldeaaGreat
open Go.RowKit Bw
theorem risc_good_0tt (a b c op im:Int) (w:World) (ha:-9223372036854775808≤a) (ha':a≤9223372036854775807) (hb:-9223372036854775808≤b) (hb':b≤9223372036854775807) (hc:-9223372036854775808≤c) (hc':c≤9223372036854775807) (hop:-9223372036854775808≤op) (hop':op≤9223372036854775807) (him:-9223372036854775808≤im) (him':im≤9223372036854775807) :
  Calls Tryz.prog 151 #[Ins.val ⟨0,true,true,a,b,c,op,im⟩] w fun e w'=>e=.returned (.bool (Ins.good ⟨0,true,true,a,b,c,op,im⟩))∧Below w.heap.size w w':=by
 simp only[Ins.val,Ins.cells]
 go_enter Tryz.func151,Tryz.ntmps151
 go_wp2_with (first | (go_at_call 177;refine(risc_half _ _ _ (by omega) (by omega) (by omega) (by omega)).mono ?_;rintro e w' ⟨rfl,rfl⟩) | (go_at_call 168;refine(bits_fits _ _ _ (by omega) (by omega)).mono ?_;rintro e w' ⟨rfl,rfl⟩))
 all_goals go_region
 all_goals go_wp2_with (first | (go_at_call 177;refine(risc_half _ _ _ (by omega) (by omega) (by omega) (by omega)).mono ?_;rintro e w' ⟨rfl,rfl⟩) | (go_at_call 168;refine(bits_fits _ _ _ (by omega) (by omega)).mono ?_;rintro e w' ⟨rfl,rfl⟩))
 all_goals go_ret
 all_goals refine⟨ret_bool ?_,?_⟩
 all_goals first | (repeat (first | exact Below.refl _ _ | apply Below.drew | refine Below.alloc ?_ (by simp) _)) | skip
 all_goals simp_all[Ins.good,Ins.inb,Ins.uop,half4,half16,fits20,fits24]
 all_goals first | omega | (rw[Bool.eq_iff_iff];simp;omega)
theorem risc_good_0tf (a b c op im:Int) (w:World) (ha:-9223372036854775808≤a) (ha':a≤9223372036854775807) (hb:-9223372036854775808≤b) (hb':b≤9223372036854775807) (hc:-9223372036854775808≤c) (hc':c≤9223372036854775807) (hop:-9223372036854775808≤op) (hop':op≤9223372036854775807) (him:-9223372036854775808≤im) (him':im≤9223372036854775807) :
  Calls Tryz.prog 151 #[Ins.val ⟨0,true,false,a,b,c,op,im⟩] w fun e w'=>e=.returned (.bool (Ins.good ⟨0,true,false,a,b,c,op,im⟩))∧Below w.heap.size w w':=by
 simp only[Ins.val,Ins.cells]
 go_enter Tryz.func151,Tryz.ntmps151
 go_wp2_with (first | (go_at_call 177;refine(risc_half _ _ _ (by omega) (by omega) (by omega) (by omega)).mono ?_;rintro e w' ⟨rfl,rfl⟩) | (go_at_call 168;refine(bits_fits _ _ _ (by omega) (by omega)).mono ?_;rintro e w' ⟨rfl,rfl⟩))
 all_goals go_region
 all_goals go_wp2_with (first | (go_at_call 177;refine(risc_half _ _ _ (by omega) (by omega) (by omega) (by omega)).mono ?_;rintro e w' ⟨rfl,rfl⟩) | (go_at_call 168;refine(bits_fits _ _ _ (by omega) (by omega)).mono ?_;rintro e w' ⟨rfl,rfl⟩))
 all_goals go_ret
 all_goals refine⟨ret_bool ?_,?_⟩
 all_goals first | (repeat (first | exact Below.refl _ _ | apply Below.drew | refine Below.alloc ?_ (by simp) _)) | skip
 all_goals simp_all[Ins.good,Ins.inb,Ins.uop,half4,half16,fits20,fits24]
 all_goals first | omega | (rw[Bool.eq_iff_iff];simp;omega)
theorem risc_good_0ft (a b c op im:Int) (w:World) (ha:-9223372036854775808≤a) (ha':a≤9223372036854775807) (hb:-9223372036854775808≤b) (hb':b≤9223372036854775807) (hc:-9223372036854775808≤c) (hc':c≤9223372036854775807) (hop:-9223372036854775808≤op) (hop':op≤9223372036854775807) (him:-9223372036854775808≤im) (him':im≤9223372036854775807) :
  Calls Tryz.prog 151 #[Ins.val ⟨0,false,true,a,b,c,op,im⟩] w fun e w'=>e=.returned (.bool (Ins.good ⟨0,false,true,a,b,c,op,im⟩))∧Below w.heap.size w w':=by
 simp only[Ins.val,Ins.cells]
 go_enter Tryz.func151,Tryz.ntmps151
 go_wp2_with (first | (go_at_call 177;refine(risc_half _ _ _ (by omega) (by omega) (by omega) (by omega)).mono ?_;rintro e w' ⟨rfl,rfl⟩) | (go_at_call 168;refine(bits_fits _ _ _ (by omega) (by omega)).mono ?_;rintro e w' ⟨rfl,rfl⟩))
 all_goals go_region
 all_goals go_wp2_with (first | (go_at_call 177;refine(risc_half _ _ _ (by omega) (by omega) (by omega) (by omega)).mono ?_;rintro e w' ⟨rfl,rfl⟩) | (go_at_call 168;refine(bits_fits _ _ _ (by omega) (by omega)).mono ?_;rintro e w' ⟨rfl,rfl⟩))
 all_goals go_ret
 all_goals refine⟨ret_bool ?_,?_⟩
 all_goals first | (repeat (first | exact Below.refl _ _ | apply Below.drew | refine Below.alloc ?_ (by simp) _)) | skip
 all_goals simp_all[Ins.good,Ins.inb,Ins.uop,half4,half16,fits20,fits24]
 all_goals first | omega | (rw[Bool.eq_iff_iff];simp;omega)
theorem risc_good_0ff (a b c op im:Int) (w:World) (ha:-9223372036854775808≤a) (ha':a≤9223372036854775807) (hb:-9223372036854775808≤b) (hb':b≤9223372036854775807) (hc:-9223372036854775808≤c) (hc':c≤9223372036854775807) (hop:-9223372036854775808≤op) (hop':op≤9223372036854775807) (him:-9223372036854775808≤im) (him':im≤9223372036854775807) :
  Calls Tryz.prog 151 #[Ins.val ⟨0,false,false,a,b,c,op,im⟩] w fun e w'=>e=.returned (.bool (Ins.good ⟨0,false,false,a,b,c,op,im⟩))∧Below w.heap.size w w':=by
 simp only[Ins.val,Ins.cells]
 go_enter Tryz.func151,Tryz.ntmps151
 go_wp2_with (first | (go_at_call 177;refine(risc_half _ _ _ (by omega) (by omega) (by omega) (by omega)).mono ?_;rintro e w' ⟨rfl,rfl⟩) | (go_at_call 168;refine(bits_fits _ _ _ (by omega) (by omega)).mono ?_;rintro e w' ⟨rfl,rfl⟩))
 all_goals go_region
 all_goals go_wp2_with (first | (go_at_call 177;refine(risc_half _ _ _ (by omega) (by omega) (by omega) (by omega)).mono ?_;rintro e w' ⟨rfl,rfl⟩) | (go_at_call 168;refine(bits_fits _ _ _ (by omega) (by omega)).mono ?_;rintro e w' ⟨rfl,rfl⟩))
 all_goals go_ret
 all_goals refine⟨ret_bool ?_,?_⟩
 all_goals first | (repeat (first | exact Below.refl _ _ | apply Below.drew | refine Below.alloc ?_ (by simp) _)) | skip
 all_goals simp_all[Ins.good,Ins.inb,Ins.uop,half4,half16,fits20,fits24]
 all_goals first | omega | (rw[Bool.eq_iff_iff];simp;omega)
end Go.Proofs.YtceflhffilldeaaGreat
namespace Go.Proofs.YtceflhffilldeaaGreat
open Go.RowKit Bw
theorem risc_good_1tt (a b c op im:Int) (w:World) (ha:-9223372036854775808≤a) (ha':a≤9223372036854775807) (hb:-9223372036854775808≤b) (hb':b≤9223372036854775807) (hc:-9223372036854775808≤c) (hc':c≤9223372036854775807) (hop:-9223372036854775808≤op) (hop':op≤9223372036854775807) (him:-9223372036854775808≤im) (him':im≤9223372036854775807) :
  Calls Tryz.prog 151 #[Ins.val ⟨1,true,true,a,b,c,op,im⟩] w fun e w'=>e=.returned (.bool (Ins.good ⟨1,true,true,a,b,c,op,im⟩))∧Below w.heap.size w w':=by
 simp only[Ins.val,Ins.cells]
 go_enter Tryz.func151,Tryz.ntmps151
 go_wp2_with (first | (go_at_call 177;refine(risc_half _ _ _ (by omega) (by omega) (by omega) (by omega)).mono ?_;rintro e w' ⟨rfl,rfl⟩) | (go_at_call 168;refine(bits_fits _ _ _ (by omega) (by omega)).mono ?_;rintro e w' ⟨rfl,rfl⟩))
 all_goals go_region
 all_goals go_wp2_with (first | (go_at_call 177;refine(risc_half _ _ _ (by omega) (by omega) (by omega) (by omega)).mono ?_;rintro e w' ⟨rfl,rfl⟩) | (go_at_call 168;refine(bits_fits _ _ _ (by omega) (by omega)).mono ?_;rintro e w' ⟨rfl,rfl⟩))
 all_goals go_ret
 all_goals refine⟨ret_bool ?_,?_⟩
 all_goals first | (repeat (first | exact Below.refl _ _ | apply Below.drew | refine Below.alloc ?_ (by simp) _)) | skip
 all_goals simp_all[Ins.good,Ins.inb,Ins.uop,half4,half16,fits20,fits24]
 all_goals first | omega | (rw[Bool.eq_iff_iff];simp;omega)
theorem risc_good_1tf (a b c op im:Int) (w:World) (ha:-9223372036854775808≤a) (ha':a≤9223372036854775807) (hb:-9223372036854775808≤b) (hb':b≤9223372036854775807) (hc:-9223372036854775808≤c) (hc':c≤9223372036854775807) (hop:-9223372036854775808≤op) (hop':op≤9223372036854775807) (him:-9223372036854775808≤im) (him':im≤9223372036854775807) :
  Calls Tryz.prog 151 #[Ins.val ⟨1,true,false,a,b,c,op,im⟩] w fun e w'=>e=.returned (.bool (Ins.good ⟨1,true,false,a,b,c,op,im⟩))∧Below w.heap.size w w':=by
 simp only[Ins.val,Ins.cells]
 go_enter Tryz.func151,Tryz.ntmps151
 go_wp2_with (first | (go_at_call 177;refine(risc_half _ _ _ (by omega) (by omega) (by omega) (by omega)).mono ?_;rintro e w' ⟨rfl,rfl⟩) | (go_at_call 168;refine(bits_fits _ _ _ (by omega) (by omega)).mono ?_;rintro e w' ⟨rfl,rfl⟩))
 all_goals go_region
 all_goals go_wp2_with (first | (go_at_call 177;refine(risc_half _ _ _ (by omega) (by omega) (by omega) (by omega)).mono ?_;rintro e w' ⟨rfl,rfl⟩) | (go_at_call 168;refine(bits_fits _ _ _ (by omega) (by omega)).mono ?_;rintro e w' ⟨rfl,rfl⟩))
 all_goals go_ret
 all_goals refine⟨ret_bool ?_,?_⟩
 all_goals first | (repeat (first | exact Below.refl _ _ | apply Below.drew | refine Below.alloc ?_ (by simp) _)) | skip
 all_goals simp_all[Ins.good,Ins.inb,Ins.uop,half4,half16,fits20,fits24]
 all_goals first | omega | (rw[Bool.eq_iff_iff];simp;omega)
theorem risc_good_1ft (a b c op im:Int) (w:World) (ha:-9223372036854775808≤a) (ha':a≤9223372036854775807) (hb:-9223372036854775808≤b) (hb':b≤9223372036854775807) (hc:-9223372036854775808≤c) (hc':c≤9223372036854775807) (hop:-9223372036854775808≤op) (hop':op≤9223372036854775807) (him:-9223372036854775808≤im) (him':im≤9223372036854775807) :
  Calls Tryz.prog 151 #[Ins.val ⟨1,false,true,a,b,c,op,im⟩] w fun e w'=>e=.returned (.bool (Ins.good ⟨1,false,true,a,b,c,op,im⟩))∧Below w.heap.size w w':=by
 simp only[Ins.val,Ins.cells]
 go_enter Tryz.func151,Tryz.ntmps151
 go_wp2_with (first | (go_at_call 177;refine(risc_half _ _ _ (by omega) (by omega) (by omega) (by omega)).mono ?_;rintro e w' ⟨rfl,rfl⟩) | (go_at_call 168;refine(bits_fits _ _ _ (by omega) (by omega)).mono ?_;rintro e w' ⟨rfl,rfl⟩))
 all_goals go_region
 all_goals go_wp2_with (first | (go_at_call 177;refine(risc_half _ _ _ (by omega) (by omega) (by omega) (by omega)).mono ?_;rintro e w' ⟨rfl,rfl⟩) | (go_at_call 168;refine(bits_fits _ _ _ (by omega) (by omega)).mono ?_;rintro e w' ⟨rfl,rfl⟩))
 all_goals go_ret
 all_goals refine⟨ret_bool ?_,?_⟩
 all_goals first | (repeat (first | exact Below.refl _ _ | apply Below.drew | refine Below.alloc ?_ (by simp) _)) | skip
 all_goals simp_all[Ins.good,Ins.inb,Ins.uop,half4,half16,fits20,fits24]
 all_goals first | omega | (rw[Bool.eq_iff_iff];simp;omega)
theorem risc_good_1ff (a b c op im:Int) (w:World) (ha:-9223372036854775808≤a) (ha':a≤9223372036854775807) (hb:-9223372036854775808≤b) (hb':b≤9223372036854775807) (hc:-9223372036854775808≤c) (hc':c≤9223372036854775807) (hop:-9223372036854775808≤op) (hop':op≤9223372036854775807) (him:-9223372036854775808≤im) (him':im≤9223372036854775807) :
  Calls Tryz.prog 151 #[Ins.val ⟨1,false,false,a,b,c,op,im⟩] w fun e w'=>e=.returned (.bool (Ins.good ⟨1,false,false,a,b,c,op,im⟩))∧Below w.heap.size w w':=by
 simp only[Ins.val,Ins.cells]
 go_enter Tryz.func151,Tryz.ntmps151
 go_wp2_with (first | (go_at_call 177;refine(risc_half _ _ _ (by omega) (by omega) (by omega) (by omega)).mono ?_;rintro e w' ⟨rfl,rfl⟩) | (go_at_call 168;refine(bits_fits _ _ _ (by omega) (by omega)).mono ?_;rintro e w' ⟨rfl,rfl⟩))
 all_goals go_region
 all_goals go_wp2_with (first | (go_at_call 177;refine(risc_half _ _ _ (by omega) (by omega) (by omega) (by omega)).mono ?_;rintro e w' ⟨rfl,rfl⟩) | (go_at_call 168;refine(bits_fits _ _ _ (by omega) (by omega)).mono ?_;rintro e w' ⟨rfl,rfl⟩))
 all_goals go_ret
 all_goals refine⟨ret_bool ?_,?_⟩
 all_goals first | (repeat (first | exact Below.refl _ _ | apply Below.drew | refine Below.alloc ?_ (by simp) _)) | skip
 all_goals simp_all[Ins.good,Ins.inb,Ins.uop,half4,half16,fits20,fits24]
 all_goals first | omega | (rw[Bool.eq_iff_iff];simp;omega)
end Go.Proofs.YtceflhffilldeaaGreat
namespace Go.Proofs.YtceflhffilldeaaGreat
open Go.RowKit Bw
theorem risc_good_2tt (a b c op im:Int) (w:World) (ha:-9223372036854775808≤a) (ha':a≤9223372036854775807) (hb:-9223372036854775808≤b) (hb':b≤9223372036854775807) (hc:-9223372036854775808≤c) (hc':c≤9223372036854775807) (hop:-9223372036854775808≤op) (hop':op≤9223372036854775807) (him:-9223372036854775808≤im) (him':im≤9223372036854775807) :
  Calls Tryz.prog 151 #[Ins.val ⟨2,true,true,a,b,c,op,im⟩] w fun e w'=>e=.returned (.bool (Ins.good ⟨2,true,true,a,b,c,op,im⟩))∧Below w.heap.size w w':=by
 simp only[Ins.val,Ins.cells]
 go_enter Tryz.func151,Tryz.ntmps151
 go_wp2_with (first | (go_at_call 177;refine(risc_half _ _ _ (by omega) (by omega) (by omega) (by omega)).mono ?_;rintro e w' ⟨rfl,rfl⟩) | (go_at_call 168;refine(bits_fits _ _ _ (by omega) (by omega)).mono ?_;rintro e w' ⟨rfl,rfl⟩))
 all_goals go_region
 all_goals go_wp2_with (first | (go_at_call 177;refine(risc_half _ _ _ (by omega) (by omega) (by omega) (by omega)).mono ?_;rintro e w' ⟨rfl,rfl⟩) | (go_at_call 168;refine(bits_fits _ _ _ (by omega) (by omega)).mono ?_;rintro e w' ⟨rfl,rfl⟩))
 all_goals go_ret
 all_goals refine⟨ret_bool ?_,?_⟩
 all_goals first | (repeat (first | exact Below.refl _ _ | apply Below.drew | refine Below.alloc ?_ (by simp) _)) | skip
 all_goals simp_all[Ins.good,Ins.inb,Ins.uop,half4,half16,fits20,fits24]
 all_goals first | omega | (rw[Bool.eq_iff_iff];simp;omega)
theorem risc_good_2tf (a b c op im:Int) (w:World) (ha:-9223372036854775808≤a) (ha':a≤9223372036854775807) (hb:-9223372036854775808≤b) (hb':b≤9223372036854775807) (hc:-9223372036854775808≤c) (hc':c≤9223372036854775807) (hop:-9223372036854775808≤op) (hop':op≤9223372036854775807) (him:-9223372036854775808≤im) (him':im≤9223372036854775807) :
  Calls Tryz.prog 151 #[Ins.val ⟨2,true,false,a,b,c,op,im⟩] w fun e w'=>e=.returned (.bool (Ins.good ⟨2,true,false,a,b,c,op,im⟩))∧Below w.heap.size w w':=by
 simp only[Ins.val,Ins.cells]
 go_enter Tryz.func151,Tryz.ntmps151
 go_wp2_with (first | (go_at_call 177;refine(risc_half _ _ _ (by omega) (by omega) (by omega) (by omega)).mono ?_;rintro e w' ⟨rfl,rfl⟩) | (go_at_call 168;refine(bits_fits _ _ _ (by omega) (by omega)).mono ?_;rintro e w' ⟨rfl,rfl⟩))
 all_goals go_region
 all_goals go_wp2_with (first | (go_at_call 177;refine(risc_half _ _ _ (by omega) (by omega) (by omega) (by omega)).mono ?_;rintro e w' ⟨rfl,rfl⟩) | (go_at_call 168;refine(bits_fits _ _ _ (by omega) (by omega)).mono ?_;rintro e w' ⟨rfl,rfl⟩))
 all_goals go_ret
 all_goals refine⟨ret_bool ?_,?_⟩
 all_goals first | (repeat (first | exact Below.refl _ _ | apply Below.drew | refine Below.alloc ?_ (by simp) _)) | skip
 all_goals simp_all[Ins.good,Ins.inb,Ins.uop,half4,half16,fits20,fits24]
 all_goals first | omega | (rw[Bool.eq_iff_iff];simp;omega)
theorem risc_good_2ft (a b c op im:Int) (w:World) (ha:-9223372036854775808≤a) (ha':a≤9223372036854775807) (hb:-9223372036854775808≤b) (hb':b≤9223372036854775807) (hc:-9223372036854775808≤c) (hc':c≤9223372036854775807) (hop:-9223372036854775808≤op) (hop':op≤9223372036854775807) (him:-9223372036854775808≤im) (him':im≤9223372036854775807) :
  Calls Tryz.prog 151 #[Ins.val ⟨2,false,true,a,b,c,op,im⟩] w fun e w'=>e=.returned (.bool (Ins.good ⟨2,false,true,a,b,c,op,im⟩))∧Below w.heap.size w w':=by
 simp only[Ins.val,Ins.cells]
 go_enter Tryz.func151,Tryz.ntmps151
 go_wp2_with (first | (go_at_call 177;refine(risc_half _ _ _ (by omega) (by omega) (by omega) (by omega)).mono ?_;rintro e w' ⟨rfl,rfl⟩) | (go_at_call 168;refine(bits_fits _ _ _ (by omega) (by omega)).mono ?_;rintro e w' ⟨rfl,rfl⟩))
 all_goals go_region
 all_goals go_wp2_with (first | (go_at_call 177;refine(risc_half _ _ _ (by omega) (by omega) (by omega) (by omega)).mono ?_;rintro e w' ⟨rfl,rfl⟩) | (go_at_call 168;refine(bits_fits _ _ _ (by omega) (by omega)).mono ?_;rintro e w' ⟨rfl,rfl⟩))
 all_goals go_ret
 all_goals refine⟨ret_bool ?_,?_⟩
 all_goals first | (repeat (first | exact Below.refl _ _ | apply Below.drew | refine Below.alloc ?_ (by simp) _)) | skip
 all_goals simp_all[Ins.good,Ins.inb,Ins.uop,half4,half16,fits20,fits24]
 all_goals first | omega | (rw[Bool.eq_iff_iff];simp;omega)
theorem risc_good_2ff (a b c op im:Int) (w:World) (ha:-9223372036854775808≤a) (ha':a≤9223372036854775807) (hb:-9223372036854775808≤b) (hb':b≤9223372036854775807) (hc:-9223372036854775808≤c) (hc':c≤9223372036854775807) (hop:-9223372036854775808≤op) (hop':op≤9223372036854775807) (him:-9223372036854775808≤im) (him':im≤9223372036854775807) :
  Calls Tryz.prog 151 #[Ins.val ⟨2,false,false,a,b,c,op,im⟩] w fun e w'=>e=.returned (.bool (Ins.good ⟨2,false,false,a,b,c,op,im⟩))∧Below w.heap.size w w':=by
 simp only[Ins.val,Ins.cells]
 go_enter Tryz.func151,Tryz.ntmps151
 go_wp2_with (first | (go_at_call 177;refine(risc_half _ _ _ (by omega) (by omega) (by omega) (by omega)).mono ?_;rintro e w' ⟨rfl,rfl⟩) | (go_at_call 168;refine(bits_fits _ _ _ (by omega) (by omega)).mono ?_;rintro e w' ⟨rfl,rfl⟩))
 all_goals go_region
 all_goals go_wp2_with (first | (go_at_call 177;refine(risc_half _ _ _ (by omega) (by omega) (by omega) (by omega)).mono ?_;rintro e w' ⟨rfl,rfl⟩) | (go_at_call 168;refine(bits_fits _ _ _ (by omega) (by omega)).mono ?_;rintro e w' ⟨rfl,rfl⟩))
 all_goals go_ret
 all_goals refine⟨ret_bool ?_,?_⟩
 all_goals first | (repeat (first | exact Below.refl _ _ | apply Below.drew | refine Below.alloc ?_ (by simp) _)) | skip
 all_goals simp_all[Ins.good,Ins.inb,Ins.uop,half4,half16,fits20,fits24]
 all_goals first | omega | (rw[Bool.eq_iff_iff];simp;omega)
end Go.Proofs.YtceflhffilldeaaGreat
namespace Go.Proofs.YtceflhffilldeaaGreat
open Go.RowKit Bw
theorem risc_good_3tt (a b c op im:Int) (w:World) (ha:-9223372036854775808≤a) (ha':a≤9223372036854775807) (hb:-9223372036854775808≤b) (hb':b≤9223372036854775807) (hc:-9223372036854775808≤c) (hc':c≤9223372036854775807) (hop:-9223372036854775808≤op) (hop':op≤9223372036854775807) (him:-9223372036854775808≤im) (him':im≤9223372036854775807) :
  Calls Tryz.prog 151 #[Ins.val ⟨3,true,true,a,b,c,op,im⟩] w fun e w'=>e=.returned (.bool (Ins.good ⟨3,true,true,a,b,c,op,im⟩))∧Below w.heap.size w w':=by
 simp only[Ins.val,Ins.cells]
 go_enter Tryz.func151,Tryz.ntmps151
 go_wp2_with (first | (go_at_call 177;refine(risc_half _ _ _ (by omega) (by omega) (by omega) (by omega)).mono ?_;rintro e w' ⟨rfl,rfl⟩) | (go_at_call 168;refine(bits_fits _ _ _ (by omega) (by omega)).mono ?_;rintro e w' ⟨rfl,rfl⟩))
 all_goals go_ret
 all_goals refine⟨ret_bool ?_,?_⟩
 all_goals first | (repeat (first | exact Below.refl _ _ | apply Below.drew | refine Below.alloc ?_ (by simp) _)) | skip
 all_goals simp_all[Ins.good,Ins.inb,Ins.uop,half4,half16,fits20,fits24]
 all_goals first | omega | (rw[Bool.eq_iff_iff];simp;omega)
theorem risc_good_3tf (a b c op im:Int) (w:World) (ha:-9223372036854775808≤a) (ha':a≤9223372036854775807) (hb:-9223372036854775808≤b) (hb':b≤9223372036854775807) (hc:-9223372036854775808≤c) (hc':c≤9223372036854775807) (hop:-9223372036854775808≤op) (hop':op≤9223372036854775807) (him:-9223372036854775808≤im) (him':im≤9223372036854775807) :
  Calls Tryz.prog 151 #[Ins.val ⟨3,true,false,a,b,c,op,im⟩] w fun e w'=>e=.returned (.bool (Ins.good ⟨3,true,false,a,b,c,op,im⟩))∧Below w.heap.size w w':=by
 simp only[Ins.val,Ins.cells]
 go_enter Tryz.func151,Tryz.ntmps151
 go_wp2_with (first | (go_at_call 177;refine(risc_half _ _ _ (by omega) (by omega) (by omega) (by omega)).mono ?_;rintro e w' ⟨rfl,rfl⟩) | (go_at_call 168;refine(bits_fits _ _ _ (by omega) (by omega)).mono ?_;rintro e w' ⟨rfl,rfl⟩))
 all_goals go_ret
 all_goals refine⟨ret_bool ?_,?_⟩
 all_goals first | (repeat (first | exact Below.refl _ _ | apply Below.drew | refine Below.alloc ?_ (by simp) _)) | skip
 all_goals simp_all[Ins.good,Ins.inb,Ins.uop,half4,half16,fits20,fits24]
 all_goals first | omega | (rw[Bool.eq_iff_iff];simp;omega)
theorem risc_good_3ft (a b c op im:Int) (w:World) (ha:-9223372036854775808≤a) (ha':a≤9223372036854775807) (hb:-9223372036854775808≤b) (hb':b≤9223372036854775807) (hc:-9223372036854775808≤c) (hc':c≤9223372036854775807) (hop:-9223372036854775808≤op) (hop':op≤9223372036854775807) (him:-9223372036854775808≤im) (him':im≤9223372036854775807) :
  Calls Tryz.prog 151 #[Ins.val ⟨3,false,true,a,b,c,op,im⟩] w fun e w'=>e=.returned (.bool (Ins.good ⟨3,false,true,a,b,c,op,im⟩))∧Below w.heap.size w w':=by
 simp only[Ins.val,Ins.cells]
 go_enter Tryz.func151,Tryz.ntmps151
 go_wp2_with (first | (go_at_call 177;refine(risc_half _ _ _ (by omega) (by omega) (by omega) (by omega)).mono ?_;rintro e w' ⟨rfl,rfl⟩) | (go_at_call 168;refine(bits_fits _ _ _ (by omega) (by omega)).mono ?_;rintro e w' ⟨rfl,rfl⟩))
 all_goals go_ret
 all_goals refine⟨ret_bool ?_,?_⟩
 all_goals first | (repeat (first | exact Below.refl _ _ | apply Below.drew | refine Below.alloc ?_ (by simp) _)) | skip
 all_goals simp_all[Ins.good,Ins.inb,Ins.uop,half4,half16,fits20,fits24]
 all_goals first | omega | (rw[Bool.eq_iff_iff];simp;omega)
theorem risc_good_3ff (a b c op im:Int) (w:World) (ha:-9223372036854775808≤a) (ha':a≤9223372036854775807) (hb:-9223372036854775808≤b) (hb':b≤9223372036854775807) (hc:-9223372036854775808≤c) (hc':c≤9223372036854775807) (hop:-9223372036854775808≤op) (hop':op≤9223372036854775807) (him:-9223372036854775808≤im) (him':im≤9223372036854775807) :
  Calls Tryz.prog 151 #[Ins.val ⟨3,false,false,a,b,c,op,im⟩] w fun e w'=>e=.returned (.bool (Ins.good ⟨3,false,false,a,b,c,op,im⟩))∧Below w.heap.size w w':=by
 simp only[Ins.val,Ins.cells]
 go_enter Tryz.func151,Tryz.ntmps151
 go_wp2_with (first | (go_at_call 177;refine(risc_half _ _ _ (by omega) (by omega) (by omega) (by omega)).mono ?_;rintro e w' ⟨rfl,rfl⟩) | (go_at_call 168;refine(bits_fits _ _ _ (by omega) (by omega)).mono ?_;rintro e w' ⟨rfl,rfl⟩))
 all_goals go_ret
 all_goals refine⟨ret_bool ?_,?_⟩
 all_goals first | (repeat (first | exact Below.refl _ _ | apply Below.drew | refine Below.alloc ?_ (by simp) _)) | skip
 all_goals simp_all[Ins.good,Ins.inb,Ins.uop,half4,half16,fits20,fits24]
 all_goals first | omega | (rw[Bool.eq_iff_iff];simp;omega)
end Go.Proofs.YtceflhffilldeaaGreat
