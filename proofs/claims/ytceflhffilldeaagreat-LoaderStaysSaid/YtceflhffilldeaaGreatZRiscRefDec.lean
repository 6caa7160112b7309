/-
  Joined: ZRiscRefDec.
-/
import Derived.Test.YtceflhffilldeaaGreatZRiscRefGood
set_option linter.unusedVariables false
set_option linter.unusedSimpArgs false
set_option maxRecDepth 100000
set_option maxHeartbeats 16000000
namespace Go.Proofs.YtceflhffilldeaaGreat
open Go.RowKit Bw
theorem ref02_encode_any (x:Ins) (w:World) (hx:x.fits) :
  Calls Tryz.prog 61 #[x.val] w fun e w'=>e=.returned (.tuple #[.int .u32 x.E,.int .i64 x.eerr])∧Below w.heap.size w w':=by
 cases hg:x.good
 ·rw[Ins.E,Ins.eerr,hg];exact ref02_encode_none x w hx hg
 ·rw[Ins.E,Ins.eerr,hg];exact ref02_encode x w hx hg
theorem ref02_decode_0_yes (x:Int) (U V:Bool) (w:World) (hx:0≤x) (hx':x<4294967296) (h30:x / 1073741824=0) (hU:(x / 536870912 % 2==1)=U) (hV:(x / 268435456 % 2==1)=V) 
  (HE:Hid (∀ W,Calls Tryz.prog 61 #[Ins.val ⟨0,U,V,Get x 24 4,Get x 20 4,x % 16,Get x 16 4,0⟩] W fun q w'=>q=.returned (.tuple #[.int .u32 x,.int .i64 0])∧Below W.heap.size W w')) :
  Calls Tryz.prog 54 #[.int .u32 x] w fun q w'=>q=.returned (.tuple #[Ins.val ⟨0,U,V,Get x 24 4,Get x 20 4,x % 16,Get x 16 4,0⟩,.int .i64 0])∧Below w.heap.size w w':=by
 have a1:=get_bd x 24 4 hx hx'
 have a2:=get_bd x 20 4 hx hx'
 have a3:=get_bd x 16 4 hx hx'
 have e1:=extend_bd x 20
 have e2:=extend_bd x 24
 have n1:=get_30 x hx hx'
 have n2:=get_29 x
 have n3:=get_28 x
 have n4:=get_0_4 x
 have n5:=get_0_16 x
 have n6:=get_0_20 x
 have n7:=get_0_24 x
 go_enter Tryz.func54,Tryz.ntmps54
 go_wp2_with fail
 refine(ref02_part x 30 2 _ hx hx' (by omega) (by omega) (by omega) (by omega)).mono ?_
 rintro e w' ⟨rfl,d0,rfl⟩
 go_wp2_with fail
 refine(ref02_part x 29 1 _ hx hx' (by omega) (by omega) (by omega) (by omega)).mono ?_
 rintro e w' ⟨rfl,d1,rfl⟩
 go_wp2_with fail
 refine(ref02_part x 28 1 _ hx hx' (by omega) (by omega) (by omega) (by omega)).mono ?_
 rintro e w' ⟨rfl,d2,rfl⟩
 go_wp2_with fail
 refine(ref02_part x 24 4 _ hx hx' (by omega) (by omega) (by omega) (by omega)).mono ?_
 rintro e w' ⟨rfl,d3,rfl⟩
 go_wp2_with fail
 refine(ref02_part x 20 4 _ hx hx' (by omega) (by omega) (by omega) (by omega)).mono ?_
 rintro e w' ⟨rfl,d4,rfl⟩
 go_wp2_with fail
 refine(ref02_part x 16 4 _ hx hx' (by omega) (by omega) (by omega) (by omega)).mono ?_
 rintro e w' ⟨rfl,d5,rfl⟩
 go_wp2_with fail
 refine(ref02_part x 0 4 _ hx hx' (by omega) (by omega) (by omega) (by omega)).mono ?_
 rintro e w' ⟨rfl,d6,rfl⟩
 go_wp2_with fail
 refine(HE.out _).mono ?_
 rintro e w1 ⟨rfl,hb⟩
 obtain⟨hc,hf⟩:=bcell hb
 have hz:=hb.size
 simp at hz
 have c0:w1.cell? ⟨w.heap.size,0,none⟩=some (.int .i64 0):=(hb.cell (p:=⟨w.heap.size,0,none⟩) (by simp;omega)).trans (by go_simp)
 have c1:w1.cell? ⟨w.heap.size,1,none⟩=some (.bool false):=(hb.cell (p:=⟨w.heap.size,1,none⟩) (by simp;omega)).trans (by go_simp)
 have c2:w1.cell? ⟨w.heap.size,2,none⟩=some (.bool false):=(hb.cell (p:=⟨w.heap.size,2,none⟩) (by simp;omega)).trans (by go_simp)
 have c3:w1.cell? ⟨w.heap.size,3,none⟩=some (.int .i64 0):=(hb.cell (p:=⟨w.heap.size,3,none⟩) (by simp;omega)).trans (by go_simp)
 have c4:w1.cell? ⟨w.heap.size,4,none⟩=some (.int .i64 0):=(hb.cell (p:=⟨w.heap.size,4,none⟩) (by simp;omega)).trans (by go_simp)
 have c5:w1.cell? ⟨w.heap.size,5,none⟩=some (.int .i64 0):=(hb.cell (p:=⟨w.heap.size,5,none⟩) (by simp;omega)).trans (by go_simp)
 have c6:w1.cell? ⟨w.heap.size,6,none⟩=some (.int .i64 0):=(hb.cell (p:=⟨w.heap.size,6,none⟩) (by simp;omega)).trans (by go_simp)
 have c7:w1.cell? ⟨w.heap.size,7,none⟩=some (.int .i64 0):=(hb.cell (p:=⟨w.heap.size,7,none⟩) (by simp;omega)).trans (by go_simp)
 go_wp2_with fail
 refine bodyPost_ret (v:=.tuple #[Ins.val ⟨0,U,V,Get x 24 4,Get x 20 4,x % 16,Get x 16 4,0⟩,.int .i64 0]) (by simp only[results,Tryz.results54,Ins.val,Ins.cells,Ins.zero];go_simp) rfl ⟨rfl,?_⟩
 ((repeat with_reducible refine Below.setCell ?_ (by simp) _);refine below_call' ?_ hb;repeat (first | with_reducible exact Below.refl _ _ | with_reducible refine Below.setCell ?_ (by simp) _ | with_reducible refine below_drewN' ?_ _ | with_reducible refine Below.alloc ?_ (by simp) _))
theorem ref02_decode_0_no (x:Int) (U V:Bool) (w:World) (hx:0≤x) (hx':x<4294967296) (h30:x / 1073741824=0) (hU:(x / 536870912 % 2==1)=U) (hV:(x / 268435456 % 2==1)=V) (err r:Int) (hn:Hid (err≠0∨r≠x)) 
  (HE:Hid (∀ W,Calls Tryz.prog 61 #[Ins.val ⟨0,U,V,Get x 24 4,Get x 20 4,x % 16,Get x 16 4,0⟩] W fun q w'=>q=.returned (.tuple #[.int .u32 r,.int .i64 err])∧Below W.heap.size W w')) :
  Calls Tryz.prog 54 #[.int .u32 x] w fun q w'=>q=.returned (.tuple #[Ins.val Ins.zero,.int .i64 20])∧Below w.heap.size w w':=by
 have a1:=get_bd x 24 4 hx hx'
 have a2:=get_bd x 20 4 hx hx'
 have a3:=get_bd x 16 4 hx hx'
 have e1:=extend_bd x 20
 have e2:=extend_bd x 24
 have n1:=get_30 x hx hx'
 have n2:=get_29 x
 have n3:=get_28 x
 have n4:=get_0_4 x
 have n5:=get_0_16 x
 have n6:=get_0_20 x
 have n7:=get_0_24 x
 go_enter Tryz.func54,Tryz.ntmps54
 go_wp2_with fail
 refine(ref02_part x 30 2 _ hx hx' (by omega) (by omega) (by omega) (by omega)).mono ?_
 rintro e w' ⟨rfl,d0,rfl⟩
 go_wp2_with fail
 refine(ref02_part x 29 1 _ hx hx' (by omega) (by omega) (by omega) (by omega)).mono ?_
 rintro e w' ⟨rfl,d1,rfl⟩
 go_wp2_with fail
 refine(ref02_part x 28 1 _ hx hx' (by omega) (by omega) (by omega) (by omega)).mono ?_
 rintro e w' ⟨rfl,d2,rfl⟩
 go_wp2_with fail
 refine(ref02_part x 24 4 _ hx hx' (by omega) (by omega) (by omega) (by omega)).mono ?_
 rintro e w' ⟨rfl,d3,rfl⟩
 go_wp2_with fail
 refine(ref02_part x 20 4 _ hx hx' (by omega) (by omega) (by omega) (by omega)).mono ?_
 rintro e w' ⟨rfl,d4,rfl⟩
 go_wp2_with fail
 refine(ref02_part x 16 4 _ hx hx' (by omega) (by omega) (by omega) (by omega)).mono ?_
 rintro e w' ⟨rfl,d5,rfl⟩
 go_wp2_with fail
 refine(ref02_part x 0 4 _ hx hx' (by omega) (by omega) (by omega) (by omega)).mono ?_
 rintro e w' ⟨rfl,d6,rfl⟩
 go_wp2_with fail
 refine(HE.out _).mono ?_
 rintro e w1 ⟨rfl,hb⟩
 obtain⟨hc,hf⟩:=bcell hb
 have hz:=hb.size
 simp at hz
 have c0:w1.cell? ⟨w.heap.size,0,none⟩=some (.int .i64 0):=(hb.cell (p:=⟨w.heap.size,0,none⟩) (by simp;omega)).trans (by go_simp)
 have c1:w1.cell? ⟨w.heap.size,1,none⟩=some (.bool false):=(hb.cell (p:=⟨w.heap.size,1,none⟩) (by simp;omega)).trans (by go_simp)
 have c2:w1.cell? ⟨w.heap.size,2,none⟩=some (.bool false):=(hb.cell (p:=⟨w.heap.size,2,none⟩) (by simp;omega)).trans (by go_simp)
 have c3:w1.cell? ⟨w.heap.size,3,none⟩=some (.int .i64 0):=(hb.cell (p:=⟨w.heap.size,3,none⟩) (by simp;omega)).trans (by go_simp)
 have c4:w1.cell? ⟨w.heap.size,4,none⟩=some (.int .i64 0):=(hb.cell (p:=⟨w.heap.size,4,none⟩) (by simp;omega)).trans (by go_simp)
 have c5:w1.cell? ⟨w.heap.size,5,none⟩=some (.int .i64 0):=(hb.cell (p:=⟨w.heap.size,5,none⟩) (by simp;omega)).trans (by go_simp)
 have c6:w1.cell? ⟨w.heap.size,6,none⟩=some (.int .i64 0):=(hb.cell (p:=⟨w.heap.size,6,none⟩) (by simp;omega)).trans (by go_simp)
 have c7:w1.cell? ⟨w.heap.size,7,none⟩=some (.int .i64 0):=(hb.cell (p:=⟨w.heap.size,7,none⟩) (by simp;omega)).trans (by go_simp)
 go_wp2_with fail
 all_goals first | (exfalso;have:=hn.out;simp_all;done) | skip
 all_goals refine bodyPost_ret (v:=.tuple #[Ins.val Ins.zero,.int .i64 20]) (by simp only[results,Tryz.results54,Ins.val,Ins.cells,Ins.zero];go_simp) rfl ⟨rfl,?_⟩
 all_goals ((repeat with_reducible refine Below.setCell ?_ (by simp) _);refine below_call' ?_ hb;repeat (first | with_reducible exact Below.refl _ _ | with_reducible refine Below.setCell ?_ (by simp) _ | with_reducible refine below_drewN' ?_ _ | with_reducible refine Below.alloc ?_ (by simp) _))
theorem ref02_decode_1_yes (x:Int) (U V:Bool) (w:World) (hx:0≤x) (hx':x<4294967296) (h30:x / 1073741824=1) (hU:(x / 536870912 % 2==1)=U) (hV:(x / 268435456 % 2==1)=V) 
  (HE:Hid (∀ W,Calls Tryz.prog 61 #[Ins.val ⟨1,U,V,Get x 24 4,Get x 20 4,0,Get x 16 4,x % 65536⟩] W fun q w'=>q=.returned (.tuple #[.int .u32 x,.int .i64 0])∧Below W.heap.size W w')) :
  Calls Tryz.prog 54 #[.int .u32 x] w fun q w'=>q=.returned (.tuple #[Ins.val ⟨1,U,V,Get x 24 4,Get x 20 4,0,Get x 16 4,x % 65536⟩,.int .i64 0])∧Below w.heap.size w w':=by
 have a1:=get_bd x 24 4 hx hx'
 have a2:=get_bd x 20 4 hx hx'
 have a3:=get_bd x 16 4 hx hx'
 have e1:=extend_bd x 20
 have e2:=extend_bd x 24
 have n1:=get_30 x hx hx'
 have n2:=get_29 x
 have n3:=get_28 x
 have n4:=get_0_4 x
 have n5:=get_0_16 x
 have n6:=get_0_20 x
 have n7:=get_0_24 x
 go_enter Tryz.func54,Tryz.ntmps54
 go_wp2_with fail
 refine(ref02_part x 30 2 _ hx hx' (by omega) (by omega) (by omega) (by omega)).mono ?_
 rintro e w' ⟨rfl,d0,rfl⟩
 go_wp2_with fail
 refine(ref02_part x 29 1 _ hx hx' (by omega) (by omega) (by omega) (by omega)).mono ?_
 rintro e w' ⟨rfl,d1,rfl⟩
 go_wp2_with fail
 refine(ref02_part x 28 1 _ hx hx' (by omega) (by omega) (by omega) (by omega)).mono ?_
 rintro e w' ⟨rfl,d2,rfl⟩
 go_wp2_with fail
 refine(ref02_part x 24 4 _ hx hx' (by omega) (by omega) (by omega) (by omega)).mono ?_
 rintro e w' ⟨rfl,d3,rfl⟩
 go_wp2_with fail
 refine(ref02_part x 20 4 _ hx hx' (by omega) (by omega) (by omega) (by omega)).mono ?_
 rintro e w' ⟨rfl,d4,rfl⟩
 go_wp2_with fail
 refine(ref02_part x 16 4 _ hx hx' (by omega) (by omega) (by omega) (by omega)).mono ?_
 rintro e w' ⟨rfl,d5,rfl⟩
 go_wp2_with fail
 refine(ref02_part x 0 16 _ hx hx' (by omega) (by omega) (by omega) (by omega)).mono ?_
 rintro e w' ⟨rfl,d6,rfl⟩
 go_wp2_with fail
 refine(HE.out _).mono ?_
 rintro e w1 ⟨rfl,hb⟩
 obtain⟨hc,hf⟩:=bcell hb
 have hz:=hb.size
 simp at hz
 have c0:w1.cell? ⟨w.heap.size,0,none⟩=some (.int .i64 0):=(hb.cell (p:=⟨w.heap.size,0,none⟩) (by simp;omega)).trans (by go_simp)
 have c1:w1.cell? ⟨w.heap.size,1,none⟩=some (.bool false):=(hb.cell (p:=⟨w.heap.size,1,none⟩) (by simp;omega)).trans (by go_simp)
 have c2:w1.cell? ⟨w.heap.size,2,none⟩=some (.bool false):=(hb.cell (p:=⟨w.heap.size,2,none⟩) (by simp;omega)).trans (by go_simp)
 have c3:w1.cell? ⟨w.heap.size,3,none⟩=some (.int .i64 0):=(hb.cell (p:=⟨w.heap.size,3,none⟩) (by simp;omega)).trans (by go_simp)
 have c4:w1.cell? ⟨w.heap.size,4,none⟩=some (.int .i64 0):=(hb.cell (p:=⟨w.heap.size,4,none⟩) (by simp;omega)).trans (by go_simp)
 have c5:w1.cell? ⟨w.heap.size,5,none⟩=some (.int .i64 0):=(hb.cell (p:=⟨w.heap.size,5,none⟩) (by simp;omega)).trans (by go_simp)
 have c6:w1.cell? ⟨w.heap.size,6,none⟩=some (.int .i64 0):=(hb.cell (p:=⟨w.heap.size,6,none⟩) (by simp;omega)).trans (by go_simp)
 have c7:w1.cell? ⟨w.heap.size,7,none⟩=some (.int .i64 0):=(hb.cell (p:=⟨w.heap.size,7,none⟩) (by simp;omega)).trans (by go_simp)
 go_wp2_with fail
 refine bodyPost_ret (v:=.tuple #[Ins.val ⟨1,U,V,Get x 24 4,Get x 20 4,0,Get x 16 4,x % 65536⟩,.int .i64 0]) (by simp only[results,Tryz.results54,Ins.val,Ins.cells,Ins.zero];go_simp) rfl ⟨rfl,?_⟩
 ((repeat with_reducible refine Below.setCell ?_ (by simp) _);refine below_call' ?_ hb;repeat (first | with_reducible exact Below.refl _ _ | with_reducible refine Below.setCell ?_ (by simp) _ | with_reducible refine below_drewN' ?_ _ | with_reducible refine Below.alloc ?_ (by simp) _))
theorem ref02_decode_1_no (x:Int) (U V:Bool) (w:World) (hx:0≤x) (hx':x<4294967296) (h30:x / 1073741824=1) (hU:(x / 536870912 % 2==1)=U) (hV:(x / 268435456 % 2==1)=V) (err r:Int) (hn:Hid (err≠0∨r≠x)) 
  (HE:Hid (∀ W,Calls Tryz.prog 61 #[Ins.val ⟨1,U,V,Get x 24 4,Get x 20 4,0,Get x 16 4,x % 65536⟩] W fun q w'=>q=.returned (.tuple #[.int .u32 r,.int .i64 err])∧Below W.heap.size W w')) :
  Calls Tryz.prog 54 #[.int .u32 x] w fun q w'=>q=.returned (.tuple #[Ins.val Ins.zero,.int .i64 20])∧Below w.heap.size w w':=by
 have a1:=get_bd x 24 4 hx hx'
 have a2:=get_bd x 20 4 hx hx'
 have a3:=get_bd x 16 4 hx hx'
 have e1:=extend_bd x 20
 have e2:=extend_bd x 24
 have n1:=get_30 x hx hx'
 have n2:=get_29 x
 have n3:=get_28 x
 have n4:=get_0_4 x
 have n5:=get_0_16 x
 have n6:=get_0_20 x
 have n7:=get_0_24 x
 go_enter Tryz.func54,Tryz.ntmps54
 go_wp2_with fail
 refine(ref02_part x 30 2 _ hx hx' (by omega) (by omega) (by omega) (by omega)).mono ?_
 rintro e w' ⟨rfl,d0,rfl⟩
 go_wp2_with fail
 refine(ref02_part x 29 1 _ hx hx' (by omega) (by omega) (by omega) (by omega)).mono ?_
 rintro e w' ⟨rfl,d1,rfl⟩
 go_wp2_with fail
 refine(ref02_part x 28 1 _ hx hx' (by omega) (by omega) (by omega) (by omega)).mono ?_
 rintro e w' ⟨rfl,d2,rfl⟩
 go_wp2_with fail
 refine(ref02_part x 24 4 _ hx hx' (by omega) (by omega) (by omega) (by omega)).mono ?_
 rintro e w' ⟨rfl,d3,rfl⟩
 go_wp2_with fail
 refine(ref02_part x 20 4 _ hx hx' (by omega) (by omega) (by omega) (by omega)).mono ?_
 rintro e w' ⟨rfl,d4,rfl⟩
 go_wp2_with fail
 refine(ref02_part x 16 4 _ hx hx' (by omega) (by omega) (by omega) (by omega)).mono ?_
 rintro e w' ⟨rfl,d5,rfl⟩
 go_wp2_with fail
 refine(ref02_part x 0 16 _ hx hx' (by omega) (by omega) (by omega) (by omega)).mono ?_
 rintro e w' ⟨rfl,d6,rfl⟩
 go_wp2_with fail
 refine(HE.out _).mono ?_
 rintro e w1 ⟨rfl,hb⟩
 obtain⟨hc,hf⟩:=bcell hb
 have hz:=hb.size
 simp at hz
 have c0:w1.cell? ⟨w.heap.size,0,none⟩=some (.int .i64 0):=(hb.cell (p:=⟨w.heap.size,0,none⟩) (by simp;omega)).trans (by go_simp)
 have c1:w1.cell? ⟨w.heap.size,1,none⟩=some (.bool false):=(hb.cell (p:=⟨w.heap.size,1,none⟩) (by simp;omega)).trans (by go_simp)
 have c2:w1.cell? ⟨w.heap.size,2,none⟩=some (.bool false):=(hb.cell (p:=⟨w.heap.size,2,none⟩) (by simp;omega)).trans (by go_simp)
 have c3:w1.cell? ⟨w.heap.size,3,none⟩=some (.int .i64 0):=(hb.cell (p:=⟨w.heap.size,3,none⟩) (by simp;omega)).trans (by go_simp)
 have c4:w1.cell? ⟨w.heap.size,4,none⟩=some (.int .i64 0):=(hb.cell (p:=⟨w.heap.size,4,none⟩) (by simp;omega)).trans (by go_simp)
 have c5:w1.cell? ⟨w.heap.size,5,none⟩=some (.int .i64 0):=(hb.cell (p:=⟨w.heap.size,5,none⟩) (by simp;omega)).trans (by go_simp)
 have c6:w1.cell? ⟨w.heap.size,6,none⟩=some (.int .i64 0):=(hb.cell (p:=⟨w.heap.size,6,none⟩) (by simp;omega)).trans (by go_simp)
 have c7:w1.cell? ⟨w.heap.size,7,none⟩=some (.int .i64 0):=(hb.cell (p:=⟨w.heap.size,7,none⟩) (by simp;omega)).trans (by go_simp)
 go_wp2_with fail
 all_goals first | (exfalso;have:=hn.out;simp_all;done) | skip
 all_goals refine bodyPost_ret (v:=.tuple #[Ins.val Ins.zero,.int .i64 20]) (by simp only[results,Tryz.results54,Ins.val,Ins.cells,Ins.zero];go_simp) rfl ⟨rfl,?_⟩
 all_goals ((repeat with_reducible refine Below.setCell ?_ (by simp) _);refine below_call' ?_ hb;repeat (first | with_reducible exact Below.refl _ _ | with_reducible refine Below.setCell ?_ (by simp) _ | with_reducible refine below_drewN' ?_ _ | with_reducible refine Below.alloc ?_ (by simp) _))
theorem ref02_decode_2_yes (x:Int) (U V:Bool) (w:World) (hx:0≤x) (hx':x<4294967296) (h30:x / 1073741824=2) (hU:(x / 536870912 % 2==1)=U) (hV:(x / 268435456 % 2==1)=V) 
  (HE:Hid (∀ W,Calls Tryz.prog 61 #[Ins.val ⟨2,U,V,Get x 24 4,Get x 20 4,0,0,Extend x 20⟩] W fun q w'=>q=.returned (.tuple #[.int .u32 x,.int .i64 0])∧Below W.heap.size W w')) :
  Calls Tryz.prog 54 #[.int .u32 x] w fun q w'=>q=.returned (.tuple #[Ins.val ⟨2,U,V,Get x 24 4,Get x 20 4,0,0,Extend x 20⟩,.int .i64 0])∧Below w.heap.size w w':=by
 have a1:=get_bd x 24 4 hx hx'
 have a2:=get_bd x 20 4 hx hx'
 have a3:=get_bd x 16 4 hx hx'
 have e1:=extend_bd x 20
 have e2:=extend_bd x 24
 have n1:=get_30 x hx hx'
 have n2:=get_29 x
 have n3:=get_28 x
 have n4:=get_0_4 x
 have n5:=get_0_16 x
 have n6:=get_0_20 x
 have n7:=get_0_24 x
 go_enter Tryz.func54,Tryz.ntmps54
 go_wp2_with fail
 refine(ref02_part x 30 2 _ hx hx' (by omega) (by omega) (by omega) (by omega)).mono ?_
 rintro e w' ⟨rfl,d0,rfl⟩
 go_wp2_with fail
 refine(ref02_part x 29 1 _ hx hx' (by omega) (by omega) (by omega) (by omega)).mono ?_
 rintro e w' ⟨rfl,d1,rfl⟩
 go_wp2_with fail
 refine(ref02_part x 28 1 _ hx hx' (by omega) (by omega) (by omega) (by omega)).mono ?_
 rintro e w' ⟨rfl,d2,rfl⟩
 go_wp2_with fail
 refine(ref02_part x 24 4 _ hx hx' (by omega) (by omega) (by omega) (by omega)).mono ?_
 rintro e w' ⟨rfl,d3,rfl⟩
 go_wp2_with fail
 refine(ref02_part x 20 4 _ hx hx' (by omega) (by omega) (by omega) (by omega)).mono ?_
 rintro e w' ⟨rfl,d4,rfl⟩
 go_wp2_with fail
 refine(ref01_get x 0 20 _ hx hx' (by omega) (by omega) (by omega) (by omega)).mono ?_
 rintro e w' ⟨rfl,d5,rfl⟩
 go_wp2_with fail
 refine(ref01_extend (x % 1048576) 20 _ (by omega) (by omega)).mono ?_
 rintro e w' ⟨rfl,rfl⟩
 rw[extend_mod20]
 go_wp2_with fail
 refine(HE.out _).mono ?_
 rintro e w1 ⟨rfl,hb⟩
 obtain⟨hc,hf⟩:=bcell hb
 have hz:=hb.size
 simp at hz
 have c0:w1.cell? ⟨w.heap.size,0,none⟩=some (.int .i64 0):=(hb.cell (p:=⟨w.heap.size,0,none⟩) (by simp;omega)).trans (by go_simp)
 have c1:w1.cell? ⟨w.heap.size,1,none⟩=some (.bool false):=(hb.cell (p:=⟨w.heap.size,1,none⟩) (by simp;omega)).trans (by go_simp)
 have c2:w1.cell? ⟨w.heap.size,2,none⟩=some (.bool false):=(hb.cell (p:=⟨w.heap.size,2,none⟩) (by simp;omega)).trans (by go_simp)
 have c3:w1.cell? ⟨w.heap.size,3,none⟩=some (.int .i64 0):=(hb.cell (p:=⟨w.heap.size,3,none⟩) (by simp;omega)).trans (by go_simp)
 have c4:w1.cell? ⟨w.heap.size,4,none⟩=some (.int .i64 0):=(hb.cell (p:=⟨w.heap.size,4,none⟩) (by simp;omega)).trans (by go_simp)
 have c5:w1.cell? ⟨w.heap.size,5,none⟩=some (.int .i64 0):=(hb.cell (p:=⟨w.heap.size,5,none⟩) (by simp;omega)).trans (by go_simp)
 have c6:w1.cell? ⟨w.heap.size,6,none⟩=some (.int .i64 0):=(hb.cell (p:=⟨w.heap.size,6,none⟩) (by simp;omega)).trans (by go_simp)
 have c7:w1.cell? ⟨w.heap.size,7,none⟩=some (.int .i64 0):=(hb.cell (p:=⟨w.heap.size,7,none⟩) (by simp;omega)).trans (by go_simp)
 go_wp2_with fail
 refine bodyPost_ret (v:=.tuple #[Ins.val ⟨2,U,V,Get x 24 4,Get x 20 4,0,0,Extend x 20⟩,.int .i64 0]) (by simp only[results,Tryz.results54,Ins.val,Ins.cells,Ins.zero];go_simp) rfl ⟨rfl,?_⟩
 ((repeat with_reducible refine Below.setCell ?_ (by simp) _);refine below_call' ?_ hb;repeat (first | with_reducible exact Below.refl _ _ | with_reducible refine Below.setCell ?_ (by simp) _ | with_reducible refine below_drewN' ?_ _ | with_reducible refine Below.alloc ?_ (by simp) _))
theorem ref02_decode_2_no (x:Int) (U V:Bool) (w:World) (hx:0≤x) (hx':x<4294967296) (h30:x / 1073741824=2) (hU:(x / 536870912 % 2==1)=U) (hV:(x / 268435456 % 2==1)=V) (err r:Int) (hn:Hid (err≠0∨r≠x)) 
  (HE:Hid (∀ W,Calls Tryz.prog 61 #[Ins.val ⟨2,U,V,Get x 24 4,Get x 20 4,0,0,Extend x 20⟩] W fun q w'=>q=.returned (.tuple #[.int .u32 r,.int .i64 err])∧Below W.heap.size W w')) :
  Calls Tryz.prog 54 #[.int .u32 x] w fun q w'=>q=.returned (.tuple #[Ins.val Ins.zero,.int .i64 20])∧Below w.heap.size w w':=by
 have a1:=get_bd x 24 4 hx hx'
 have a2:=get_bd x 20 4 hx hx'
 have a3:=get_bd x 16 4 hx hx'
 have e1:=extend_bd x 20
 have e2:=extend_bd x 24
 have n1:=get_30 x hx hx'
 have n2:=get_29 x
 have n3:=get_28 x
 have n4:=get_0_4 x
 have n5:=get_0_16 x
 have n6:=get_0_20 x
 have n7:=get_0_24 x
 go_enter Tryz.func54,Tryz.ntmps54
 go_wp2_with fail
 refine(ref02_part x 30 2 _ hx hx' (by omega) (by omega) (by omega) (by omega)).mono ?_
 rintro e w' ⟨rfl,d0,rfl⟩
 go_wp2_with fail
 refine(ref02_part x 29 1 _ hx hx' (by omega) (by omega) (by omega) (by omega)).mono ?_
 rintro e w' ⟨rfl,d1,rfl⟩
 go_wp2_with fail
 refine(ref02_part x 28 1 _ hx hx' (by omega) (by omega) (by omega) (by omega)).mono ?_
 rintro e w' ⟨rfl,d2,rfl⟩
 go_wp2_with fail
 refine(ref02_part x 24 4 _ hx hx' (by omega) (by omega) (by omega) (by omega)).mono ?_
 rintro e w' ⟨rfl,d3,rfl⟩
 go_wp2_with fail
 refine(ref02_part x 20 4 _ hx hx' (by omega) (by omega) (by omega) (by omega)).mono ?_
 rintro e w' ⟨rfl,d4,rfl⟩
 go_wp2_with fail
 refine(ref01_get x 0 20 _ hx hx' (by omega) (by omega) (by omega) (by omega)).mono ?_
 rintro e w' ⟨rfl,d5,rfl⟩
 go_wp2_with fail
 refine(ref01_extend (x % 1048576) 20 _ (by omega) (by omega)).mono ?_
 rintro e w' ⟨rfl,rfl⟩
 rw[extend_mod20]
 go_wp2_with fail
 refine(HE.out _).mono ?_
 rintro e w1 ⟨rfl,hb⟩
 obtain⟨hc,hf⟩:=bcell hb
 have hz:=hb.size
 simp at hz
 have c0:w1.cell? ⟨w.heap.size,0,none⟩=some (.int .i64 0):=(hb.cell (p:=⟨w.heap.size,0,none⟩) (by simp;omega)).trans (by go_simp)
 have c1:w1.cell? ⟨w.heap.size,1,none⟩=some (.bool false):=(hb.cell (p:=⟨w.heap.size,1,none⟩) (by simp;omega)).trans (by go_simp)
 have c2:w1.cell? ⟨w.heap.size,2,none⟩=some (.bool false):=(hb.cell (p:=⟨w.heap.size,2,none⟩) (by simp;omega)).trans (by go_simp)
 have c3:w1.cell? ⟨w.heap.size,3,none⟩=some (.int .i64 0):=(hb.cell (p:=⟨w.heap.size,3,none⟩) (by simp;omega)).trans (by go_simp)
 have c4:w1.cell? ⟨w.heap.size,4,none⟩=some (.int .i64 0):=(hb.cell (p:=⟨w.heap.size,4,none⟩) (by simp;omega)).trans (by go_simp)
 have c5:w1.cell? ⟨w.heap.size,5,none⟩=some (.int .i64 0):=(hb.cell (p:=⟨w.heap.size,5,none⟩) (by simp;omega)).trans (by go_simp)
 have c6:w1.cell? ⟨w.heap.size,6,none⟩=some (.int .i64 0):=(hb.cell (p:=⟨w.heap.size,6,none⟩) (by simp;omega)).trans (by go_simp)
 have c7:w1.cell? ⟨w.heap.size,7,none⟩=some (.int .i64 0):=(hb.cell (p:=⟨w.heap.size,7,none⟩) (by simp;omega)).trans (by go_simp)
 go_wp2_with fail
 all_goals first | (exfalso;have:=hn.out;simp_all;done) | skip
 all_goals refine bodyPost_ret (v:=.tuple #[Ins.val Ins.zero,.int .i64 20]) (by simp only[results,Tryz.results54,Ins.val,Ins.cells,Ins.zero];go_simp) rfl ⟨rfl,?_⟩
 all_goals ((repeat with_reducible refine Below.setCell ?_ (by simp) _);refine below_call' ?_ hb;repeat (first | with_reducible exact Below.refl _ _ | with_reducible refine Below.setCell ?_ (by simp) _ | with_reducible refine below_drewN' ?_ _ | with_reducible refine Below.alloc ?_ (by simp) _))
theorem ref02_decode_3t_yes (x:Int) (V:Bool) (w:World) (hx:0≤x) (hx':x<4294967296) (h30:x / 1073741824=3) (hU:(x / 536870912 % 2==1)=true) (hV:(x / 268435456 % 2==1)=V) 
  (HE:Hid (∀ W,Calls Tryz.prog 61 #[Ins.val ⟨3,true,V,Get x 24 4,0,0,0,Extend x 24⟩] W fun q w'=>q=.returned (.tuple #[.int .u32 x,.int .i64 0])∧Below W.heap.size W w')) :
  Calls Tryz.prog 54 #[.int .u32 x] w fun q w'=>q=.returned (.tuple #[Ins.val ⟨3,true,V,Get x 24 4,0,0,0,Extend x 24⟩,.int .i64 0])∧Below w.heap.size w w':=by
 have a1:=get_bd x 24 4 hx hx'
 have a2:=get_bd x 20 4 hx hx'
 have a3:=get_bd x 16 4 hx hx'
 have e1:=extend_bd x 20
 have e2:=extend_bd x 24
 have n1:=get_30 x hx hx'
 have n2:=get_29 x
 have n3:=get_28 x
 have n4:=get_0_4 x
 have n5:=get_0_16 x
 have n6:=get_0_20 x
 have n7:=get_0_24 x
 go_enter Tryz.func54,Tryz.ntmps54
 go_wp2_with fail
 refine(ref02_part x 30 2 _ hx hx' (by omega) (by omega) (by omega) (by omega)).mono ?_
 rintro e w' ⟨rfl,d0,rfl⟩
 go_wp2_with fail
 refine(ref02_part x 29 1 _ hx hx' (by omega) (by omega) (by omega) (by omega)).mono ?_
 rintro e w' ⟨rfl,d1,rfl⟩
 go_wp2_with fail
 refine(ref02_part x 28 1 _ hx hx' (by omega) (by omega) (by omega) (by omega)).mono ?_
 rintro e w' ⟨rfl,d2,rfl⟩
 go_wp2_with fail
 refine(ref02_part x 24 4 _ hx hx' (by omega) (by omega) (by omega) (by omega)).mono ?_
 rintro e w' ⟨rfl,d3,rfl⟩
 go_wp2_with fail
 refine(ref01_get x 0 24 _ hx hx' (by omega) (by omega) (by omega) (by omega)).mono ?_
 rintro e w' ⟨rfl,d4,rfl⟩
 go_wp2_with fail
 refine(ref01_extend (x % 16777216) 24 _ (by omega) (by omega)).mono ?_
 rintro e w' ⟨rfl,rfl⟩
 rw[extend_mod24]
 go_wp2_with fail
 refine(HE.out _).mono ?_
 rintro e w1 ⟨rfl,hb⟩
 obtain⟨hc,hf⟩:=bcell hb
 have hz:=hb.size
 simp at hz
 have c0:w1.cell? ⟨w.heap.size,0,none⟩=some (.int .i64 0):=(hb.cell (p:=⟨w.heap.size,0,none⟩) (by simp;omega)).trans (by go_simp)
 have c1:w1.cell? ⟨w.heap.size,1,none⟩=some (.bool false):=(hb.cell (p:=⟨w.heap.size,1,none⟩) (by simp;omega)).trans (by go_simp)
 have c2:w1.cell? ⟨w.heap.size,2,none⟩=some (.bool false):=(hb.cell (p:=⟨w.heap.size,2,none⟩) (by simp;omega)).trans (by go_simp)
 have c3:w1.cell? ⟨w.heap.size,3,none⟩=some (.int .i64 0):=(hb.cell (p:=⟨w.heap.size,3,none⟩) (by simp;omega)).trans (by go_simp)
 have c4:w1.cell? ⟨w.heap.size,4,none⟩=some (.int .i64 0):=(hb.cell (p:=⟨w.heap.size,4,none⟩) (by simp;omega)).trans (by go_simp)
 have c5:w1.cell? ⟨w.heap.size,5,none⟩=some (.int .i64 0):=(hb.cell (p:=⟨w.heap.size,5,none⟩) (by simp;omega)).trans (by go_simp)
 have c6:w1.cell? ⟨w.heap.size,6,none⟩=some (.int .i64 0):=(hb.cell (p:=⟨w.heap.size,6,none⟩) (by simp;omega)).trans (by go_simp)
 have c7:w1.cell? ⟨w.heap.size,7,none⟩=some (.int .i64 0):=(hb.cell (p:=⟨w.heap.size,7,none⟩) (by simp;omega)).trans (by go_simp)
 go_wp2_with fail
 refine bodyPost_ret (v:=.tuple #[Ins.val ⟨3,true,V,Get x 24 4,0,0,0,Extend x 24⟩,.int .i64 0]) (by simp only[results,Tryz.results54,Ins.val,Ins.cells,Ins.zero];go_simp) rfl ⟨rfl,?_⟩
 ((repeat with_reducible refine Below.setCell ?_ (by simp) _);refine below_call' ?_ hb;repeat (first | with_reducible exact Below.refl _ _ | with_reducible refine Below.setCell ?_ (by simp) _ | with_reducible refine below_drewN' ?_ _ | with_reducible refine Below.alloc ?_ (by simp) _))
theorem ref02_decode_3t_no (x:Int) (V:Bool) (w:World) (hx:0≤x) (hx':x<4294967296) (h30:x / 1073741824=3) (hU:(x / 536870912 % 2==1)=true) (hV:(x / 268435456 % 2==1)=V) (err r:Int) (hn:Hid (err≠0∨r≠x)) 
  (HE:Hid (∀ W,Calls Tryz.prog 61 #[Ins.val ⟨3,true,V,Get x 24 4,0,0,0,Extend x 24⟩] W fun q w'=>q=.returned (.tuple #[.int .u32 r,.int .i64 err])∧Below W.heap.size W w')) :
  Calls Tryz.prog 54 #[.int .u32 x] w fun q w'=>q=.returned (.tuple #[Ins.val Ins.zero,.int .i64 20])∧Below w.heap.size w w':=by
 have a1:=get_bd x 24 4 hx hx'
 have a2:=get_bd x 20 4 hx hx'
 have a3:=get_bd x 16 4 hx hx'
 have e1:=extend_bd x 20
 have e2:=extend_bd x 24
 have n1:=get_30 x hx hx'
 have n2:=get_29 x
 have n3:=get_28 x
 have n4:=get_0_4 x
 have n5:=get_0_16 x
 have n6:=get_0_20 x
 have n7:=get_0_24 x
 go_enter Tryz.func54,Tryz.ntmps54
 go_wp2_with fail
 refine(ref02_part x 30 2 _ hx hx' (by omega) (by omega) (by omega) (by omega)).mono ?_
 rintro e w' ⟨rfl,d0,rfl⟩
 go_wp2_with fail
 refine(ref02_part x 29 1 _ hx hx' (by omega) (by omega) (by omega) (by omega)).mono ?_
 rintro e w' ⟨rfl,d1,rfl⟩
 go_wp2_with fail
 refine(ref02_part x 28 1 _ hx hx' (by omega) (by omega) (by omega) (by omega)).mono ?_
 rintro e w' ⟨rfl,d2,rfl⟩
 go_wp2_with fail
 refine(ref02_part x 24 4 _ hx hx' (by omega) (by omega) (by omega) (by omega)).mono ?_
 rintro e w' ⟨rfl,d3,rfl⟩
 go_wp2_with fail
 refine(ref01_get x 0 24 _ hx hx' (by omega) (by omega) (by omega) (by omega)).mono ?_
 rintro e w' ⟨rfl,d4,rfl⟩
 go_wp2_with fail
 refine(ref01_extend (x % 16777216) 24 _ (by omega) (by omega)).mono ?_
 rintro e w' ⟨rfl,rfl⟩
 rw[extend_mod24]
 go_wp2_with fail
 refine(HE.out _).mono ?_
 rintro e w1 ⟨rfl,hb⟩
 obtain⟨hc,hf⟩:=bcell hb
 have hz:=hb.size
 simp at hz
 have c0:w1.cell? ⟨w.heap.size,0,none⟩=some (.int .i64 0):=(hb.cell (p:=⟨w.heap.size,0,none⟩) (by simp;omega)).trans (by go_simp)
 have c1:w1.cell? ⟨w.heap.size,1,none⟩=some (.bool false):=(hb.cell (p:=⟨w.heap.size,1,none⟩) (by simp;omega)).trans (by go_simp)
 have c2:w1.cell? ⟨w.heap.size,2,none⟩=some (.bool false):=(hb.cell (p:=⟨w.heap.size,2,none⟩) (by simp;omega)).trans (by go_simp)
 have c3:w1.cell? ⟨w.heap.size,3,none⟩=some (.int .i64 0):=(hb.cell (p:=⟨w.heap.size,3,none⟩) (by simp;omega)).trans (by go_simp)
 have c4:w1.cell? ⟨w.heap.size,4,none⟩=some (.int .i64 0):=(hb.cell (p:=⟨w.heap.size,4,none⟩) (by simp;omega)).trans (by go_simp)
 have c5:w1.cell? ⟨w.heap.size,5,none⟩=some (.int .i64 0):=(hb.cell (p:=⟨w.heap.size,5,none⟩) (by simp;omega)).trans (by go_simp)
 have c6:w1.cell? ⟨w.heap.size,6,none⟩=some (.int .i64 0):=(hb.cell (p:=⟨w.heap.size,6,none⟩) (by simp;omega)).trans (by go_simp)
 have c7:w1.cell? ⟨w.heap.size,7,none⟩=some (.int .i64 0):=(hb.cell (p:=⟨w.heap.size,7,none⟩) (by simp;omega)).trans (by go_simp)
 go_wp2_with fail
 all_goals first | (exfalso;have:=hn.out;simp_all;done) | skip
 all_goals refine bodyPost_ret (v:=.tuple #[Ins.val Ins.zero,.int .i64 20]) (by simp only[results,Tryz.results54,Ins.val,Ins.cells,Ins.zero];go_simp) rfl ⟨rfl,?_⟩
 all_goals ((repeat with_reducible refine Below.setCell ?_ (by simp) _);refine below_call' ?_ hb;repeat (first | with_reducible exact Below.refl _ _ | with_reducible refine Below.setCell ?_ (by simp) _ | with_reducible refine below_drewN' ?_ _ | with_reducible refine Below.alloc ?_ (by simp) _))
theorem ref02_decode_3f_yes (x:Int) (V:Bool) (w:World) (hx:0≤x) (hx':x<4294967296) (h30:x / 1073741824=3) (hU:(x / 536870912 % 2==1)=false) (hV:(x / 268435456 % 2==1)=V) 
  (HE:Hid (∀ W,Calls Tryz.prog 61 #[Ins.val ⟨3,false,V,Get x 24 4,0,x % 16,0,0⟩] W fun q w'=>q=.returned (.tuple #[.int .u32 x,.int .i64 0])∧Below W.heap.size W w')) :
  Calls Tryz.prog 54 #[.int .u32 x] w fun q w'=>q=.returned (.tuple #[Ins.val ⟨3,false,V,Get x 24 4,0,x % 16,0,0⟩,.int .i64 0])∧Below w.heap.size w w':=by
 have a1:=get_bd x 24 4 hx hx'
 have a2:=get_bd x 20 4 hx hx'
 have a3:=get_bd x 16 4 hx hx'
 have e1:=extend_bd x 20
 have e2:=extend_bd x 24
 have n1:=get_30 x hx hx'
 have n2:=get_29 x
 have n3:=get_28 x
 have n4:=get_0_4 x
 have n5:=get_0_16 x
 have n6:=get_0_20 x
 have n7:=get_0_24 x
 go_enter Tryz.func54,Tryz.ntmps54
 go_wp2_with fail
 refine(ref02_part x 30 2 _ hx hx' (by omega) (by omega) (by omega) (by omega)).mono ?_
 rintro e w' ⟨rfl,d0,rfl⟩
 go_wp2_with fail
 refine(ref02_part x 29 1 _ hx hx' (by omega) (by omega) (by omega) (by omega)).mono ?_
 rintro e w' ⟨rfl,d1,rfl⟩
 go_wp2_with fail
 refine(ref02_part x 28 1 _ hx hx' (by omega) (by omega) (by omega) (by omega)).mono ?_
 rintro e w' ⟨rfl,d2,rfl⟩
 go_wp2_with fail
 refine(ref02_part x 24 4 _ hx hx' (by omega) (by omega) (by omega) (by omega)).mono ?_
 rintro e w' ⟨rfl,d3,rfl⟩
 go_wp2_with fail
 refine(ref02_part x 0 4 _ hx hx' (by omega) (by omega) (by omega) (by omega)).mono ?_
 rintro e w' ⟨rfl,d4,rfl⟩
 go_wp2_with fail
 refine(HE.out _).mono ?_
 rintro e w1 ⟨rfl,hb⟩
 obtain⟨hc,hf⟩:=bcell hb
 have hz:=hb.size
 simp at hz
 have c0:w1.cell? ⟨w.heap.size,0,none⟩=some (.int .i64 0):=(hb.cell (p:=⟨w.heap.size,0,none⟩) (by simp;omega)).trans (by go_simp)
 have c1:w1.cell? ⟨w.heap.size,1,none⟩=some (.bool false):=(hb.cell (p:=⟨w.heap.size,1,none⟩) (by simp;omega)).trans (by go_simp)
 have c2:w1.cell? ⟨w.heap.size,2,none⟩=some (.bool false):=(hb.cell (p:=⟨w.heap.size,2,none⟩) (by simp;omega)).trans (by go_simp)
 have c3:w1.cell? ⟨w.heap.size,3,none⟩=some (.int .i64 0):=(hb.cell (p:=⟨w.heap.size,3,none⟩) (by simp;omega)).trans (by go_simp)
 have c4:w1.cell? ⟨w.heap.size,4,none⟩=some (.int .i64 0):=(hb.cell (p:=⟨w.heap.size,4,none⟩) (by simp;omega)).trans (by go_simp)
 have c5:w1.cell? ⟨w.heap.size,5,none⟩=some (.int .i64 0):=(hb.cell (p:=⟨w.heap.size,5,none⟩) (by simp;omega)).trans (by go_simp)
 have c6:w1.cell? ⟨w.heap.size,6,none⟩=some (.int .i64 0):=(hb.cell (p:=⟨w.heap.size,6,none⟩) (by simp;omega)).trans (by go_simp)
 have c7:w1.cell? ⟨w.heap.size,7,none⟩=some (.int .i64 0):=(hb.cell (p:=⟨w.heap.size,7,none⟩) (by simp;omega)).trans (by go_simp)
 go_wp2_with fail
 refine bodyPost_ret (v:=.tuple #[Ins.val ⟨3,false,V,Get x 24 4,0,x % 16,0,0⟩,.int .i64 0]) (by simp only[results,Tryz.results54,Ins.val,Ins.cells,Ins.zero];go_simp) rfl ⟨rfl,?_⟩
 ((repeat with_reducible refine Below.setCell ?_ (by simp) _);refine below_call' ?_ hb;repeat (first | with_reducible exact Below.refl _ _ | with_reducible refine Below.setCell ?_ (by simp) _ | with_reducible refine below_drewN' ?_ _ | with_reducible refine Below.alloc ?_ (by simp) _))
theorem ref02_decode_3f_no (x:Int) (V:Bool) (w:World) (hx:0≤x) (hx':x<4294967296) (h30:x / 1073741824=3) (hU:(x / 536870912 % 2==1)=false) (hV:(x / 268435456 % 2==1)=V) (err r:Int) (hn:Hid (err≠0∨r≠x)) 
  (HE:Hid (∀ W,Calls Tryz.prog 61 #[Ins.val ⟨3,false,V,Get x 24 4,0,x % 16,0,0⟩] W fun q w'=>q=.returned (.tuple #[.int .u32 r,.int .i64 err])∧Below W.heap.size W w')) :
  Calls Tryz.prog 54 #[.int .u32 x] w fun q w'=>q=.returned (.tuple #[Ins.val Ins.zero,.int .i64 20])∧Below w.heap.size w w':=by
 have a1:=get_bd x 24 4 hx hx'
 have a2:=get_bd x 20 4 hx hx'
 have a3:=get_bd x 16 4 hx hx'
 have e1:=extend_bd x 20
 have e2:=extend_bd x 24
 have n1:=get_30 x hx hx'
 have n2:=get_29 x
 have n3:=get_28 x
 have n4:=get_0_4 x
 have n5:=get_0_16 x
 have n6:=get_0_20 x
 have n7:=get_0_24 x
 go_enter Tryz.func54,Tryz.ntmps54
 go_wp2_with fail
 refine(ref02_part x 30 2 _ hx hx' (by omega) (by omega) (by omega) (by omega)).mono ?_
 rintro e w' ⟨rfl,d0,rfl⟩
 go_wp2_with fail
 refine(ref02_part x 29 1 _ hx hx' (by omega) (by omega) (by omega) (by omega)).mono ?_
 rintro e w' ⟨rfl,d1,rfl⟩
 go_wp2_with fail
 refine(ref02_part x 28 1 _ hx hx' (by omega) (by omega) (by omega) (by omega)).mono ?_
 rintro e w' ⟨rfl,d2,rfl⟩
 go_wp2_with fail
 refine(ref02_part x 24 4 _ hx hx' (by omega) (by omega) (by omega) (by omega)).mono ?_
 rintro e w' ⟨rfl,d3,rfl⟩
 go_wp2_with fail
 refine(ref02_part x 0 4 _ hx hx' (by omega) (by omega) (by omega) (by omega)).mono ?_
 rintro e w' ⟨rfl,d4,rfl⟩
 go_wp2_with fail
 refine(HE.out _).mono ?_
 rintro e w1 ⟨rfl,hb⟩
 obtain⟨hc,hf⟩:=bcell hb
 have hz:=hb.size
 simp at hz
 have c0:w1.cell? ⟨w.heap.size,0,none⟩=some (.int .i64 0):=(hb.cell (p:=⟨w.heap.size,0,none⟩) (by simp;omega)).trans (by go_simp)
 have c1:w1.cell? ⟨w.heap.size,1,none⟩=some (.bool false):=(hb.cell (p:=⟨w.heap.size,1,none⟩) (by simp;omega)).trans (by go_simp)
 have c2:w1.cell? ⟨w.heap.size,2,none⟩=some (.bool false):=(hb.cell (p:=⟨w.heap.size,2,none⟩) (by simp;omega)).trans (by go_simp)
 have c3:w1.cell? ⟨w.heap.size,3,none⟩=some (.int .i64 0):=(hb.cell (p:=⟨w.heap.size,3,none⟩) (by simp;omega)).trans (by go_simp)
 have c4:w1.cell? ⟨w.heap.size,4,none⟩=some (.int .i64 0):=(hb.cell (p:=⟨w.heap.size,4,none⟩) (by simp;omega)).trans (by go_simp)
 have c5:w1.cell? ⟨w.heap.size,5,none⟩=some (.int .i64 0):=(hb.cell (p:=⟨w.heap.size,5,none⟩) (by simp;omega)).trans (by go_simp)
 have c6:w1.cell? ⟨w.heap.size,6,none⟩=some (.int .i64 0):=(hb.cell (p:=⟨w.heap.size,6,none⟩) (by simp;omega)).trans (by go_simp)
 have c7:w1.cell? ⟨w.heap.size,7,none⟩=some (.int .i64 0):=(hb.cell (p:=⟨w.heap.size,7,none⟩) (by simp;omega)).trans (by go_simp)
 go_wp2_with fail
 all_goals first | (exfalso;have:=hn.out;simp_all;done) | skip
 all_goals refine bodyPost_ret (v:=.tuple #[Ins.val Ins.zero,.int .i64 20]) (by simp only[results,Tryz.results54,Ins.val,Ins.cells,Ins.zero];go_simp) rfl ⟨rfl,?_⟩
 all_goals ((repeat with_reducible refine Below.setCell ?_ (by simp) _);refine below_call' ?_ hb;repeat (first | with_reducible exact Below.refl _ _ | with_reducible refine Below.setCell ?_ (by simp) _ | with_reducible refine below_drewN' ?_ _ | with_reducible refine Below.alloc ?_ (by simp) _))
end Go.Proofs.YtceflhffilldeaaGreat
namespace Go.Proofs.YtceflhffilldeaaGreat
open Go.RowKit Bw
theorem isIns'_yes {x:Int} {X:Ins} (hX:Ins.decF x=X) (h:Ins.isIns x=true):X.E=x∧X.eerr=0:=by
 subst hX
 simp only[Ins.isIns,Bool.and_eq_true,beq_iff_eq] at h
 exact⟨by rw[Ins.E,if_pos h.1];exact h.2,by rw[Ins.eerr,if_pos h.1]⟩
theorem isIns'_no {x:Int} {X:Ins} (hX:Ins.decF x=X) (h:Ins.isIns x=false):X.eerr≠0∨X.E≠x:=by
 subst hX
 cases hg:(Ins.decF x).good
 ·left;simp[Ins.eerr,hg]
 ·right
  simp only[Ins.isIns,hg,Bool.true_and,beq_eq_false_iff_ne] at h
  simpa [Ins.E,hg] using h
theorem ref02_decode (x:Int) (w:World) (hx:0≤x) (hx':x<4294967296) :
  Calls Tryz.prog 54 #[.int .u32 x] w fun q w'=>q=.returned (.tuple #[(Ins.dec x).val,.int .i64 (Ins.derr x)])∧Below w.heap.size w w':=by
 have hf:=Ins.decF_fits x hx hx'
 have hE:=fun W=>ref02_encode_any (Ins.decF x) W hf
 have go:∀ X:Ins,Ins.decF x=X→(∀ W,Calls Tryz.prog 61 #[Ins.val X] W fun q w'=>q=.returned (.tuple #[.int .u32 X.E,.int .i64 X.eerr])∧Below W.heap.size W w'):=fun X h=>by subst h;exact hE
 cases hi:Ins.isIns x
 ·rw[Ins.dec,Ins.derr,hi]
  simp only[Bool.false_eq_true,if_false]
  by_cases h0:x / 1073741824=0
  ·have hX:Ins.decF x=⟨0,decide (x / 536870912 % 2=1),decide (x / 268435456 % 2=1),Get x 24 4,Get x 20 4,x % 16,Get x 16 4,0⟩:=by rw[Ins.decF,if_pos h0]
   exact ref02_decode_0_no x _ _ w hx hx' h0 rfl rfl _ _ (isIns'_no hX hi) (go _ hX)
  by_cases h1:x / 1073741824=1
  ·have hX:Ins.decF x=⟨1,decide (x / 536870912 % 2=1),decide (x / 268435456 % 2=1),Get x 24 4,Get x 20 4,0,Get x 16 4,x % 65536⟩:=by rw[Ins.decF,if_neg h0,if_pos h1]
   exact ref02_decode_1_no x _ _ w hx hx' h1 rfl rfl _ _ (isIns'_no hX hi) (go _ hX)
  by_cases h2:x / 1073741824=2
  ·have hX:Ins.decF x=⟨2,decide (x / 536870912 % 2=1),decide (x / 268435456 % 2=1),Get x 24 4,Get x 20 4,0,0,Extend x 20⟩:=by rw[Ins.decF,if_neg h0,if_neg h1,if_pos h2]
   exact ref02_decode_2_no x _ _ w hx hx' h2 rfl rfl _ _ (isIns'_no hX hi) (go _ hX)
  have h3:x / 1073741824=3:=by omega
  by_cases hu:x / 536870912 % 2=1
  ·have hX:Ins.decF x=⟨3,true,decide (x / 268435456 % 2=1),Get x 24 4,0,0,0,Extend x 24⟩:=by rw[Ins.decF,if_neg h0,if_neg h1,if_neg h2,if_pos hu]
   exact ref02_decode_3t_no x _ w hx hx' h3 (by rw[hu];rfl) rfl _ _ (isIns'_no hX hi) (go _ hX)
  ·have hX:Ins.decF x=⟨3,false,decide (x / 268435456 % 2=1),Get x 24 4,0,x % 16,0,0⟩:=by rw[Ins.decF,if_neg h0,if_neg h1,if_neg h2,if_neg hu]
   exact ref02_decode_3f_no x _ w hx hx' h3 (by simpa using hu) rfl _ _ (isIns'_no hX hi) (go _ hX)
 ·rw[Ins.dec,Ins.derr,hi]
  simp only[if_true]
  have yes:∀ X:Ins,Ins.decF x=X→(∀ W,Calls Tryz.prog 61 #[Ins.val X] W fun q w'=>q=.returned (.tuple #[.int .u32 x,.int .i64 0])∧Below W.heap.size W w'):=fun X h W=>by
   have h1:=isIns'_yes h hi
   have h2:=go X h W
   rw[h1.1,h1.2] at h2
   exact h2
  by_cases h0:x / 1073741824=0
  ·have hX:Ins.decF x=⟨0,decide (x / 536870912 % 2=1),decide (x / 268435456 % 2=1),Get x 24 4,Get x 20 4,x % 16,Get x 16 4,0⟩:=by rw[Ins.decF,if_pos h0]
   rw[hX];exact ref02_decode_0_yes x _ _ w hx hx' h0 rfl rfl (yes _ hX)
  by_cases h1:x / 1073741824=1
  ·have hX:Ins.decF x=⟨1,decide (x / 536870912 % 2=1),decide (x / 268435456 % 2=1),Get x 24 4,Get x 20 4,0,Get x 16 4,x % 65536⟩:=by rw[Ins.decF,if_neg h0,if_pos h1]
   rw[hX];exact ref02_decode_1_yes x _ _ w hx hx' h1 rfl rfl (yes _ hX)
  by_cases h2:x / 1073741824=2
  ·have hX:Ins.decF x=⟨2,decide (x / 536870912 % 2=1),decide (x / 268435456 % 2=1),Get x 24 4,Get x 20 4,0,0,Extend x 20⟩:=by rw[Ins.decF,if_neg h0,if_neg h1,if_pos h2]
   rw[hX];exact ref02_decode_2_yes x _ _ w hx hx' h2 rfl rfl (yes _ hX)
  have h3:x / 1073741824=3:=by omega
  by_cases hu:x / 536870912 % 2=1
  ·have hX:Ins.decF x=⟨3,true,decide (x / 268435456 % 2=1),Get x 24 4,0,0,0,Extend x 24⟩:=by rw[Ins.decF,if_neg h0,if_neg h1,if_neg h2,if_pos hu]
   rw[hX];exact ref02_decode_3t_yes x _ w hx hx' h3 (by rw[hu];rfl) rfl (yes _ hX)
  ·have hX:Ins.decF x=⟨3,false,decide (x / 268435456 % 2=1),Get x 24 4,0,x % 16,0,0⟩:=by rw[Ins.decF,if_neg h0,if_neg h1,if_neg h2,if_neg hu]
   rw[hX];exact ref02_decode_3f_yes x _ w hx hx' h3 (by simpa using hu) rfl (yes _ hX)
end Go.Proofs.YtceflhffilldeaaGreat
