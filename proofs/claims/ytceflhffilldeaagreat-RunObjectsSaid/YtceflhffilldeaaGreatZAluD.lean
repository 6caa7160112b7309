/-
  Joined: ZAluD.
-/
import Derived.Test.YtceflhffilldeaaGreatZAlu
set_option linter.unusedVariables false
set_option linter.unusedSimpArgs false
set_option maxRecDepth 100000
set_option maxHeartbeats 16000000
namespace Go.Proofs.YtceflhffilldeaaGreat
open Go.RowKit Bw
theorem alu_do_9un (b n h:Int) (fn fz fv:Bool) (w:World) (hb:0≤b) (hb':b<4294967296) (hn:0≤n) (hn':n<4294967296) (hh:0≤h) (hh':h<4294967296) :
  Calls Tryz.prog 132 #[.int .i64 9,.bool true,.int .u32 b,.int .u32 n,.int .u32 h,Fl.val ⟨fn,fz,false,fv⟩] w fun e w'=>
   e=.returned (.tuple #[.int .u32 (Alu.R 9 true b n h ⟨fn,fz,false,fv⟩),.int .u32 (Alu.H 9 true b n h),(Alu.F 9 true b n h ⟨fn,fz,false,fv⟩).val,.bool true])∧Below w.heap.size w w':=by
 have hbb:=wrap32_bd b
 have hbn:=wrap32_bd n
 simp only[Fl.val,Fl.cells]
 go_enter Tryz.func132,Tryz.ntmps132
 go_wp2_with fail
 refine(alu_over _ _ (by omega) (by omega)).mono ?_
 rintro e w' ⟨rfl,rfl⟩
 go_wp2_with fail
 go_region
 all_goals go_wp2_with fail
 all_goals refine bodyPost_ret (by simp only[results,Tryz.results132];go_simp;rfl) rfl ⟨?_,?_⟩
 all_goals first | exact alu_ret (by first | (simp[Alu.R,Alu.carry,Alu.prod];done) | (simp[Alu.R,Alu.carry];omega)) (Alu.R_bd _ _ _ _ _ _ hb hb' hn hn' hh hh') (by simp[Alu.H,Alu.prod]) rfl rfl (by first | (simp[Alu.F,Alu.C,Alu.carry];done) | (rw[Bool.eq_iff_iff];simp[Alu.F,Alu.C,Alu.carry];omega)) (by simp[Alu.F,Alu.V,Alu.carry]) | skip
 all_goals (repeat (first | with_reducible exact Below.refl _ _ | with_reducible apply Below.drew | with_reducible refine Below.setCell ?_ (by simp) _ | with_reducible refine Below.alloc ?_ (by simp) _ | with_reducible refine below_drewN0 ?_ _))
theorem alu_do_9uc (b n h:Int) (fn fz fv:Bool) (w:World) (hb:0≤b) (hb':b<4294967296) (hn:0≤n) (hn':n<4294967296) (hh:0≤h) (hh':h<4294967296) :
  Calls Tryz.prog 132 #[.int .i64 9,.bool true,.int .u32 b,.int .u32 n,.int .u32 h,Fl.val ⟨fn,fz,true,fv⟩] w fun e w'=>
   e=.returned (.tuple #[.int .u32 (Alu.R 9 true b n h ⟨fn,fz,true,fv⟩),.int .u32 (Alu.H 9 true b n h),(Alu.F 9 true b n h ⟨fn,fz,true,fv⟩).val,.bool true])∧Below w.heap.size w w':=by
 have hbb:=wrap32_bd b
 have hbn:=wrap32_bd n
 simp only[Fl.val,Fl.cells]
 go_enter Tryz.func132,Tryz.ntmps132
 go_wp2_with fail
 refine(alu_over _ _ (by omega) (by omega)).mono ?_
 rintro e w' ⟨rfl,rfl⟩
 go_wp2_with fail
 go_region
 all_goals go_wp2_with fail
 all_goals refine bodyPost_ret (by simp only[results,Tryz.results132];go_simp;rfl) rfl ⟨?_,?_⟩
 all_goals first | exact alu_ret (by first | (simp[Alu.R,Alu.carry,Alu.prod];done) | (simp[Alu.R,Alu.carry];omega)) (Alu.R_bd _ _ _ _ _ _ hb hb' hn hn' hh hh') (by simp[Alu.H,Alu.prod]) rfl rfl (by first | (simp[Alu.F,Alu.C,Alu.carry];done) | (rw[Bool.eq_iff_iff];simp[Alu.F,Alu.C,Alu.carry];omega)) (by simp[Alu.F,Alu.V,Alu.carry]) | skip
 all_goals (repeat (first | with_reducible exact Below.refl _ _ | with_reducible apply Below.drew | with_reducible refine Below.setCell ?_ (by simp) _ | with_reducible refine Below.alloc ?_ (by simp) _ | with_reducible refine below_drewN0 ?_ _))
theorem alu_do_10 (b n h:Int) (fn fz fc fv:Bool) (w:World) (hb:0≤b) (hb':b<4294967296) (hn:0≤n) (hn':n<4294967296) (hh:0≤h) (hh':h<4294967296) :
  Calls Tryz.prog 132 #[.int .i64 10,.bool false,.int .u32 b,.int .u32 n,.int .u32 h,Fl.val ⟨fn,fz,fc,fv⟩] w fun e w'=>
   e=.returned (.tuple #[.int .u32 (Alu.R 10 false b n h ⟨fn,fz,fc,fv⟩),.int .u32 (Alu.H 10 false b n h),(Alu.F 10 false b n h ⟨fn,fz,fc,fv⟩).val,.bool true])∧Below w.heap.size w w':=by
 simp only[Fl.val,Fl.cells]
 go_enter Tryz.func132,Tryz.ntmps132
 go_wp2_with fail
 refine(alu_product false b n _ hb hb' hn hn').mono ?_
 rintro e w' ⟨rfl,rfl⟩
 go_wp2_with fail
 go_region
 all_goals go_wp2_with fail
 all_goals refine bodyPost_ret (by simp only[results,Tryz.results132];go_simp;rfl) rfl ⟨?_,?_⟩
 all_goals first | exact alu_ret (by first | (simp[Alu.R,Alu.carry,Alu.prod];done) | (simp[Alu.R,Alu.carry];omega)) (Alu.R_bd _ _ _ _ _ _ hb hb' hn hn' hh hh') (by simp[Alu.H,Alu.prod]) rfl rfl (by first | (simp[Alu.F,Alu.C,Alu.carry];done) | (rw[Bool.eq_iff_iff];simp[Alu.F,Alu.C,Alu.carry];omega)) (by simp[Alu.F,Alu.V,Alu.carry]) | skip
 all_goals (repeat (first | with_reducible exact Below.refl _ _ | with_reducible apply Below.drew | with_reducible refine Below.setCell ?_ (by simp) _ | with_reducible refine Below.alloc ?_ (by simp) _ | with_reducible refine below_drewN0 ?_ _))
theorem alu_do_10un (b n h:Int) (fn fz fv:Bool) (w:World) (hb:0≤b) (hb':b<4294967296) (hn:0≤n) (hn':n<4294967296) (hh:0≤h) (hh':h<4294967296) :
  Calls Tryz.prog 132 #[.int .i64 10,.bool true,.int .u32 b,.int .u32 n,.int .u32 h,Fl.val ⟨fn,fz,false,fv⟩] w fun e w'=>
   e=.returned (.tuple #[.int .u32 (Alu.R 10 true b n h ⟨fn,fz,false,fv⟩),.int .u32 (Alu.H 10 true b n h),(Alu.F 10 true b n h ⟨fn,fz,false,fv⟩).val,.bool true])∧Below w.heap.size w w':=by
 simp only[Fl.val,Fl.cells]
 go_enter Tryz.func132,Tryz.ntmps132
 go_wp2_with fail
 refine(alu_product true b n _ hb hb' hn hn').mono ?_
 rintro e w' ⟨rfl,rfl⟩
 go_wp2_with fail
 go_region
 all_goals go_wp2_with fail
 all_goals refine bodyPost_ret (by simp only[results,Tryz.results132];go_simp;rfl) rfl ⟨?_,?_⟩
 all_goals first | exact alu_ret (by first | (simp[Alu.R,Alu.carry,Alu.prod];done) | (simp[Alu.R,Alu.carry];omega)) (Alu.R_bd _ _ _ _ _ _ hb hb' hn hn' hh hh') (by simp[Alu.H,Alu.prod]) rfl rfl (by first | (simp[Alu.F,Alu.C,Alu.carry];done) | (rw[Bool.eq_iff_iff];simp[Alu.F,Alu.C,Alu.carry];omega)) (by simp[Alu.F,Alu.V,Alu.carry]) | skip
 all_goals (repeat (first | with_reducible exact Below.refl _ _ | with_reducible apply Below.drew | with_reducible refine Below.setCell ?_ (by simp) _ | with_reducible refine Below.alloc ?_ (by simp) _ | with_reducible refine below_drewN0 ?_ _))
theorem alu_do_10uc (b n h:Int) (fn fz fv:Bool) (w:World) (hb:0≤b) (hb':b<4294967296) (hn:0≤n) (hn':n<4294967296) (hh:0≤h) (hh':h<4294967296) :
  Calls Tryz.prog 132 #[.int .i64 10,.bool true,.int .u32 b,.int .u32 n,.int .u32 h,Fl.val ⟨fn,fz,true,fv⟩] w fun e w'=>
   e=.returned (.tuple #[.int .u32 (Alu.R 10 true b n h ⟨fn,fz,true,fv⟩),.int .u32 (Alu.H 10 true b n h),(Alu.F 10 true b n h ⟨fn,fz,true,fv⟩).val,.bool true])∧Below w.heap.size w w':=by
 simp only[Fl.val,Fl.cells]
 go_enter Tryz.func132,Tryz.ntmps132
 go_wp2_with fail
 refine(alu_product true b n _ hb hb' hn hn').mono ?_
 rintro e w' ⟨rfl,rfl⟩
 go_wp2_with fail
 go_region
 all_goals go_wp2_with fail
 all_goals refine bodyPost_ret (by simp only[results,Tryz.results132];go_simp;rfl) rfl ⟨?_,?_⟩
 all_goals first | exact alu_ret (by first | (simp[Alu.R,Alu.carry,Alu.prod];done) | (simp[Alu.R,Alu.carry];omega)) (Alu.R_bd _ _ _ _ _ _ hb hb' hn hn' hh hh') (by simp[Alu.H,Alu.prod]) rfl rfl (by first | (simp[Alu.F,Alu.C,Alu.carry];done) | (rw[Bool.eq_iff_iff];simp[Alu.F,Alu.C,Alu.carry];omega)) (by simp[Alu.F,Alu.V,Alu.carry]) | skip
 all_goals (repeat (first | with_reducible exact Below.refl _ _ | with_reducible apply Below.drew | with_reducible refine Below.setCell ?_ (by simp) _ | with_reducible refine Below.alloc ?_ (by simp) _ | with_reducible refine below_drewN0 ?_ _))
theorem alu_do_11 (b n h:Int) (fn fz fc fv:Bool) (w:World) (hb:0≤b) (hb':b<4294967296) (hn:0≤n) (hn':n<4294967296) (hh:0≤h) (hh':h<4294967296) :
  Calls Tryz.prog 132 #[.int .i64 11,.bool false,.int .u32 b,.int .u32 n,.int .u32 h,Fl.val ⟨fn,fz,fc,fv⟩] w fun e w'=>
   e=.returned (.tuple #[.int .u32 (Alu.R 11 false b n h ⟨fn,fz,fc,fv⟩),.int .u32 (Alu.H 11 false b n h),(Alu.F 11 false b n h ⟨fn,fz,fc,fv⟩).val,.bool true])∧Below w.heap.size w w':=by
 simp only[Fl.val,Fl.cells]
 go_enter Tryz.func132,Tryz.ntmps132
 go_wp2_with fail
 refine(alu_quotient b n _ hb hb' hn hn').mono ?_
 rintro e w' ⟨rfl,d,rfl⟩
 go_wp2_with fail
 go_region
 all_goals go_wp2_with fail
 all_goals refine bodyPost_ret (by simp only[results,Tryz.results132];go_simp;rfl) rfl ⟨?_,?_⟩
 all_goals first | exact alu_ret (by first | (simp[Alu.R,Alu.carry,Alu.prod];done) | (simp[Alu.R,Alu.carry];omega)) (Alu.R_bd _ _ _ _ _ _ hb hb' hn hn' hh hh') (by simp[Alu.H,Alu.prod]) rfl rfl (by first | (simp[Alu.F,Alu.C,Alu.carry];done) | (rw[Bool.eq_iff_iff];simp[Alu.F,Alu.C,Alu.carry];omega)) (by simp[Alu.F,Alu.V,Alu.carry]) | skip
 all_goals (repeat (first | with_reducible exact Below.refl _ _ | with_reducible apply Below.drew | with_reducible refine Below.setCell ?_ (by simp) _ | with_reducible refine Below.alloc ?_ (by simp) _ | with_reducible refine below_drewN0 ?_ _))
end Go.Proofs.YtceflhffilldeaaGreat
