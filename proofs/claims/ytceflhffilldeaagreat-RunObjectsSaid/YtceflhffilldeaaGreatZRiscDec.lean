/-
  Joined: ZRiscDec.
-/
import Derived.Test.YtceflhffilldeaaGreatZRiscGood
set_option linter.unusedVariables false
set_option linter.unusedSimpArgs false
set_option maxRecDepth 100000
set_option maxHeartbeats 16000000
namespace Go.Proofs.YtceflhffilldeaaGreat
open Go.RowKit Bw
theorem risc_good_other (x:Ins) (w:World) (hx:x.fits) (h0:(x.form==0)=false) (h1:(x.form==1)=false) (h2:(x.form==2)=false) (h3:(x.form==3)=false) :
  Calls Tryz.prog 151 #[x.val] w fun e w'=>e=.returned (.bool x.good)∧Below w.heap.size w w':=by
 obtain⟨form,u,v,a,b,c,op,im⟩:=x
 obtain⟨f1,f2,a1,a2,b1,b2,c1,c2,o1,o2,i1,i2⟩:=hx
 simp only at *
 have HG:=Lib.hid (show Ins.good ⟨form,u,v,a,b,c,op,im⟩=false by simp_all[Ins.good])
 simp only[Ins.val,Ins.cells]
 go_enter Tryz.func151,Tryz.ntmps151
 go_wp2_with fail
 refine(risc_half a 4 _ a1 a2 (by omega) (by omega)).mono ?_
 rintro e w' ⟨rfl,rfl⟩
 go_wp2_with fail
 all_goals go_ret
 all_goals refine⟨ret_bool HG.out.symm,?_⟩
 all_goals (repeat (first | exact Below.refl _ _ | apply Below.drew | refine Below.alloc ?_ (by simp) _))
theorem risc_good (x:Ins) (w:World) (hx:x.fits) :
  Calls Tryz.prog 151 #[x.val] w fun e w'=>e=.returned (.bool x.good)∧Below w.heap.size w w':=by
 by_cases h0:x.form=0
 ·obtain⟨form,u,v,a,b,c,op,im⟩:=x
  obtain⟨f1,f2,a1,a2,b1,b2,c1,c2,o1,o2,i1,i2⟩:=hx
  simp only at h0
  subst h0
  cases u<;>cases v
  ·exact risc_good_0ff a b c op im w a1 a2 b1 b2 c1 c2 o1 o2 i1 i2
  ·exact risc_good_0ft a b c op im w a1 a2 b1 b2 c1 c2 o1 o2 i1 i2
  ·exact risc_good_0tf a b c op im w a1 a2 b1 b2 c1 c2 o1 o2 i1 i2
  ·exact risc_good_0tt a b c op im w a1 a2 b1 b2 c1 c2 o1 o2 i1 i2
 by_cases h1:x.form=1
 ·obtain⟨form,u,v,a,b,c,op,im⟩:=x
  obtain⟨f1,f2,a1,a2,b1,b2,c1,c2,o1,o2,i1,i2⟩:=hx
  simp only at h1
  subst h1
  cases u<;>cases v
  ·exact risc_good_1ff a b c op im w a1 a2 b1 b2 c1 c2 o1 o2 i1 i2
  ·exact risc_good_1ft a b c op im w a1 a2 b1 b2 c1 c2 o1 o2 i1 i2
  ·exact risc_good_1tf a b c op im w a1 a2 b1 b2 c1 c2 o1 o2 i1 i2
  ·exact risc_good_1tt a b c op im w a1 a2 b1 b2 c1 c2 o1 o2 i1 i2
 by_cases h2:x.form=2
 ·obtain⟨form,u,v,a,b,c,op,im⟩:=x
  obtain⟨f1,f2,a1,a2,b1,b2,c1,c2,o1,o2,i1,i2⟩:=hx
  simp only at h2
  subst h2
  cases u<;>cases v
  ·exact risc_good_2ff a b c op im w a1 a2 b1 b2 c1 c2 o1 o2 i1 i2
  ·exact risc_good_2ft a b c op im w a1 a2 b1 b2 c1 c2 o1 o2 i1 i2
  ·exact risc_good_2tf a b c op im w a1 a2 b1 b2 c1 c2 o1 o2 i1 i2
  ·exact risc_good_2tt a b c op im w a1 a2 b1 b2 c1 c2 o1 o2 i1 i2
 by_cases h3:x.form=3
 ·obtain⟨form,u,v,a,b,c,op,im⟩:=x
  obtain⟨f1,f2,a1,a2,b1,b2,c1,c2,o1,o2,i1,i2⟩:=hx
  simp only at h3
  subst h3
  cases u<;>cases v
  ·exact risc_good_3ff a b c op im w a1 a2 b1 b2 c1 c2 o1 o2 i1 i2
  ·exact risc_good_3ft a b c op im w a1 a2 b1 b2 c1 c2 o1 o2 i1 i2
  ·exact risc_good_3tf a b c op im w a1 a2 b1 b2 c1 c2 o1 o2 i1 i2
  ·exact risc_good_3tt a b c op im w a1 a2 b1 b2 c1 c2 o1 o2 i1 i2
 exact risc_good_other x w hx (by simpa using h0) (by simpa using h1) (by simpa using h2) (by simpa using h3)
theorem risc_bit (b:Bool) (n:Int) (w:World) (hn:0≤n) (hn':n≤31) :
  Calls Tryz.prog 152 #[.bool b,.int .i64 n] w fun e w'=>e=.returned (.int .u32 (Ins.one b n.toNat))∧w=w':=by
 have h1:(2:Int) ^ n.toNat % 4294967296=2 ^ n.toNat:=by
  have h2:=pow_pos n.toNat
  have h3:(2:Int) ^ n.toNat≤2 ^ 31:=pow_mono (by omega)
  exact Int.emod_eq_of_lt (by omega) (by omega)
 have H:=Lib.hid h1
 clear h1
 cases b
 all_goals go_enter Tryz.func152,Tryz.ntmps152
 all_goals go_wp2
 all_goals go_ret
 ·exact⟨rfl,rfl⟩
 ·exact⟨ret_int (by rw[Ins.one,if_pos rfl];exact H.out),rfl⟩
theorem ret_two {k1 k2:IntKind} {a b c d:Int} (h:a=b) (h':c=d):Ending.returned (.tuple #[.int k1 a,.int k2 c])=.returned (.tuple #[.int k1 b,.int k2 d]):=by rw[h,h']
theorem below_drewN {B:Nat} {a w:World} (h:Below B a w) (n:Nat):Below B a (w.drewN n):=⟨h.os,h.tape,h.output,h.size,h.block⟩
theorem below_call {w w1 w2:World} (h:Below w.heap.size w w1) (hb:Below w1.heap.size w1 w2):Below w.heap.size w w2:=h.trans (hb.mono h.size)
theorem risc_encode_none (x:Ins) (w:World) (hx:x.fits) (hg:x.good=false) :
  Calls Tryz.prog 111 #[x.val] w fun e w'=>e=.returned (.tuple #[.int .u32 0,.int .i64 20])∧Below w.heap.size w w':=by
 have HG:=fun W=>(risc_good x W hx)
 rw[hg] at HG
 obtain⟨form,u,v,a,b,c,op,im⟩:=x
 simp only[Ins.val,Ins.cells] at *
 have H:=fun W=>Lib.hid (HG W)
 clear HG hx hg
 go_enter Tryz.func111,Tryz.ntmps111
 go_wp2_with fail
 refine(H _).out.mono ?_
 rintro e w' ⟨rfl,hb⟩
 go_wp2_with fail
 go_ret2
 exact⟨rfl,below_call ((Below.refl _ _).alloc (Nat.le_refl _) _) hb⟩
theorem risc_encode_0 (u v:Bool) (a b c op im:Int) (w:World) (hx:Ins.fits ⟨0,u,v,a,b,c,op,im⟩) (hg:Ins.good ⟨0,u,v,a,b,c,op,im⟩=true) :
  Calls Tryz.prog 111 #[Ins.val ⟨0,u,v,a,b,c,op,im⟩] w fun e w'=>e=.returned (.tuple #[.int .u32 (Ins.enc ⟨0,u,v,a,b,c,op,im⟩),.int .i64 0])∧Below w.heap.size w w':=by
 have HG:=fun W=>(risc_good ⟨0,u,v,a,b,c,op,im⟩ W hx)
 rw[hg] at HG
 have hr:=Ins.good_range _ hg
 have HE:=Lib.hid (enc_val_0 u v a b c op im hg)
 simp only at hr
 obtain⟨-,-,r1,r2,r3,r4,r5,r6,r7,r8⟩:=hr
 obtain⟨-,-,-,-,-,-,-,-,-,-,i1,i2⟩:=hx
 simp only at i1 i2
 have hI:=Ins.good_im0 u v a b c op im hg
 simp only[Ins.val,Ins.cells] at *
 have H:=fun W=>Lib.hid (HG W)
 clear HG hg
 go_enter Tryz.func111,Tryz.ntmps111
 go_wp2_with fail
 refine(H _).out.mono ?_
 rintro e w' ⟨rfl,hb⟩
 obtain⟨hc,hf⟩:=bcell hb
 go_wp2_with fail
 go_quiet ((go_at_call 152;exact quiet_eq (risc_bit _ _ _ (by omega) (by omega))))
 go_wp2_with fail
 go_ret2
 exact⟨ret_two HE.out rfl,below_drewN (below_call ((Below.refl _ _).alloc (Nat.le_refl _) _) hb) _⟩
theorem risc_encode_1 (u v:Bool) (a b c op im:Int) (w:World) (hx:Ins.fits ⟨1,u,v,a,b,c,op,im⟩) (hg:Ins.good ⟨1,u,v,a,b,c,op,im⟩=true) :
  Calls Tryz.prog 111 #[Ins.val ⟨1,u,v,a,b,c,op,im⟩] w fun e w'=>e=.returned (.tuple #[.int .u32 (Ins.enc ⟨1,u,v,a,b,c,op,im⟩),.int .i64 0])∧Below w.heap.size w w':=by
 have HG:=fun W=>(risc_good ⟨1,u,v,a,b,c,op,im⟩ W hx)
 rw[hg] at HG
 have hr:=Ins.good_range _ hg
 have HE:=Lib.hid (enc_val_1 u v a b c op im hg)
 simp only at hr
 obtain⟨-,-,r1,r2,r3,r4,r5,r6,r7,r8⟩:=hr
 obtain⟨-,-,-,-,-,-,-,-,-,-,i1,i2⟩:=hx
 simp only at i1 i2
 have hI:=Ins.good_im1 u v a b c op im hg
 simp only[Ins.val,Ins.cells] at *
 have H:=fun W=>Lib.hid (HG W)
 clear HG hg
 go_enter Tryz.func111,Tryz.ntmps111
 go_wp2_with fail
 refine(H _).out.mono ?_
 rintro e w' ⟨rfl,hb⟩
 obtain⟨hc,hf⟩:=bcell hb
 go_wp2_with fail
 go_quiet ((go_at_call 152;exact quiet_eq (risc_bit _ _ _ (by omega) (by omega))))
 go_wp2_with fail
 go_ret2
 exact⟨ret_two HE.out rfl,below_drewN (below_call ((Below.refl _ _).alloc (Nat.le_refl _) _) hb) _⟩
theorem risc_encode_2 (u v:Bool) (a b c op im:Int) (w:World) (hx:Ins.fits ⟨2,u,v,a,b,c,op,im⟩) (hg:Ins.good ⟨2,u,v,a,b,c,op,im⟩=true) :
  Calls Tryz.prog 111 #[Ins.val ⟨2,u,v,a,b,c,op,im⟩] w fun e w'=>e=.returned (.tuple #[.int .u32 (Ins.enc ⟨2,u,v,a,b,c,op,im⟩),.int .i64 0])∧Below w.heap.size w w':=by
 have HG:=fun W=>(risc_good ⟨2,u,v,a,b,c,op,im⟩ W hx)
 rw[hg] at HG
 have hr:=Ins.good_range _ hg
 have HE:=Lib.hid (enc_val_2 u v a b c op im hg)
 simp only at hr
 obtain⟨-,-,r1,r2,r3,r4,r5,r6,r7,r8⟩:=hr
 obtain⟨-,-,-,-,-,-,-,-,-,-,i1,i2⟩:=hx
 simp only at i1 i2
 have hI:=Ins.good_im2 u v a b c op im hg
 simp only[Ins.val,Ins.cells] at *
 have H:=fun W=>Lib.hid (HG W)
 clear HG hg
 go_enter Tryz.func111,Tryz.ntmps111
 go_wp2_with fail
 refine(H _).out.mono ?_
 rintro e w' ⟨rfl,hb⟩
 obtain⟨hc,hf⟩:=bcell hb
 go_wp2_with fail
 go_quiet ((go_at_call 152;exact quiet_eq (risc_bit _ _ _ (by omega) (by omega))))
 go_wp2_with fail
 go_ret2
 exact⟨ret_two HE.out rfl,below_drewN (below_call ((Below.refl _ _).alloc (Nat.le_refl _) _) hb) _⟩
theorem risc_encode_3 (u v:Bool) (a b c op im:Int) (w:World) (hx:Ins.fits ⟨3,u,v,a,b,c,op,im⟩) (hg:Ins.good ⟨3,u,v,a,b,c,op,im⟩=true) :
  Calls Tryz.prog 111 #[Ins.val ⟨3,u,v,a,b,c,op,im⟩] w fun e w'=>e=.returned (.tuple #[.int .u32 (Ins.enc ⟨3,u,v,a,b,c,op,im⟩),.int .i64 0])∧Below w.heap.size w w':=by
 have HG:=fun W=>(risc_good ⟨3,u,v,a,b,c,op,im⟩ W hx)
 rw[hg] at HG
 have hr:=Ins.good_range _ hg
 have HE:=Lib.hid (enc_val_3 u v a b c op im hg)
 simp only at hr
 obtain⟨-,-,r1,r2,r3,r4,r5,r6,r7,r8⟩:=hr
 obtain⟨-,-,-,-,-,-,-,-,-,-,i1,i2⟩:=hx
 simp only at i1 i2
 have hI:=Ins.good_im3 u v a b c op im hg
 simp only[Ins.val,Ins.cells] at *
 have H:=fun W=>Lib.hid (HG W)
 clear HG hg
 go_enter Tryz.func111,Tryz.ntmps111
 go_wp2_with fail
 refine(H _).out.mono ?_
 rintro e w' ⟨rfl,hb⟩
 obtain⟨hc,hf⟩:=bcell hb
 go_wp2_with fail
 go_quiet ((go_at_call 152;exact quiet_eq (risc_bit _ _ _ (by omega) (by omega))))
 go_wp2_with fail
 go_ret2
 exact⟨ret_two HE.out rfl,below_drewN (below_call ((Below.refl _ _).alloc (Nat.le_refl _) _) hb) _⟩
theorem risc_encode (x:Ins) (w:World) (hx:x.fits) (hg:x.good=true) :
  Calls Tryz.prog 111 #[x.val] w fun e w'=>e=.returned (.tuple #[.int .u32 x.enc,.int .i64 0])∧Below w.heap.size w w':=by
 have hr:=Ins.good_range _ hg
 obtain⟨form,u,v,a,b,c,op,im⟩:=x
 simp only at hr
 have h4:form=0∨form=1∨form=2∨form=3:=by omega
 rcases h4 with rfl | rfl | rfl | rfl
 ·exact risc_encode_0 u v a b c op im w hx hg
 ·exact risc_encode_1 u v a b c op im w hx hg
 ·exact risc_encode_2 u v a b c op im w hx hg
 ·exact risc_encode_3 u v a b c op im w hx hg
end Go.Proofs.YtceflhffilldeaaGreat
namespace Go.Proofs.YtceflhffilldeaaGreat
open Go.RowKit Bw
theorem risc_encode_any (x:Ins) (w:World) (hx:x.fits) :
  Calls Tryz.prog 111 #[x.val] w fun e w'=>e=.returned (.tuple #[.int .u32 x.E,.int .i64 x.eerr])∧Below w.heap.size w w':=by
 cases hg:x.good
 ·rw[Ins.E,Ins.eerr,hg];exact risc_encode_none x w hx hg
 ·rw[Ins.E,Ins.eerr,hg];exact risc_encode x w hx hg
theorem risc_decode_0_yes (x:Int) (U V:Bool) (w:World) (hx:0≤x) (hx':x<4294967296) (h30:x / 1073741824=0) (hU:(x / 536870912 % 2==1)=U) (hV:(x / 268435456 % 2==1)=V) 
  (HE:Hid (∀ W,Calls Tryz.prog 111 #[Ins.val ⟨0,U,V,Get x 24 4,Get x 20 4,x % 16,Get x 16 4,0⟩] W fun q w'=>q=.returned (.tuple #[.int .u32 x,.int .i64 0])∧Below W.heap.size W w')) :
  Calls Tryz.prog 97 #[.int .u32 x] w fun q w'=>q=.returned (.tuple #[Ins.val ⟨0,U,V,Get x 24 4,Get x 20 4,x % 16,Get x 16 4,0⟩,.int .i64 0])∧Below w.heap.size w w':=by
 have a1:=get_bd x 24 4 hx hx'
 have a2:=get_bd x 20 4 hx hx'
 have a3:=get_bd x 16 4 hx hx'
 have e1:=extend_bd x 20
 have e2:=extend_bd x 24
 have n1:=and_1 (x / 536870912) (by omega) (by omega)
 have n2:=and_1 (x / 268435456) (by omega) (by omega)
 have n3:=and_15 x hx hx'
 have n4:IntKind.u16.wrap x=x % 65536:=by simp[IntKind.wrap,IntKind.bits,IntKind.signed]
 go_enter Tryz.func97,Tryz.ntmps97
 go_wp2_with fail
 refine(bits_get x 24 4 _ hx hx' (by omega) (by omega) (by omega) (by omega)).mono ?_
 rintro e w' ⟨rfl,d0,rfl⟩
 go_wp2_with fail
 refine(bits_get x 20 4 _ hx hx' (by omega) (by omega) (by omega) (by omega)).mono ?_
 rintro e w' ⟨rfl,d1,rfl⟩
 go_wp2_with fail
 refine(bits_get x 16 4 _ hx hx' (by omega) (by omega) (by omega) (by omega)).mono ?_
 rintro e w' ⟨rfl,d2,rfl⟩
 go_wp2_with fail
 refine(HE.out _).mono ?_
 rintro e w1 ⟨rfl,hb⟩
 obtain⟨hc,hf⟩:=bcell hb
 have hz:=hb.size
 simp at hz
 have c0:w1.cell? ⟨w.heap.size,0,none⟩=some (.int .i64 0):=(hb.cell (p:=⟨w.heap.size,0,none⟩) (by simp;omega)).trans (by go_simp)
 have c1:w1.cell? ⟨w.heap.size,1,none⟩=some (.bool false):=(hb.cell (p:=⟨w.heap.size,1,none⟩) (by simp;omega)).trans (by go_simp)
 have c2:w1.cell? ⟨w.heap.size,2,none⟩=some (.bool false):=(hb.cell (p:=⟨w.heap.size,2,none⟩) (by simp;omega)).trans (by go_simp)
 have c3:w1.cell? ⟨w.heap.size,3,none⟩=some (.int .i64 0):=(hb.cell (p:=⟨w.heap.size,3,none⟩) (by simp;omega)).trans (by go_simp)
 have c4:w1.cell? ⟨w.heap.size,4,none⟩=some (.int .i64 0):=(hb.cell (p:=⟨w.heap.size,4,none⟩) (by simp;omega)).trans (by go_simp)
 have c5:w1.cell? ⟨w.heap.size,5,none⟩=some (.int .i64 0):=(hb.cell (p:=⟨w.heap.size,5,none⟩) (by simp;omega)).trans (by go_simp)
 have c6:w1.cell? ⟨w.heap.size,6,none⟩=some (.int .i64 0):=(hb.cell (p:=⟨w.heap.size,6,none⟩) (by simp;omega)).trans (by go_simp)
 have c7:w1.cell? ⟨w.heap.size,7,none⟩=some (.int .i64 0):=(hb.cell (p:=⟨w.heap.size,7,none⟩) (by simp;omega)).trans (by go_simp)
 go_wp2_with fail
 refine bodyPost_ret (v:=.tuple #[Ins.val ⟨0,U,V,Get x 24 4,Get x 20 4,x % 16,Get x 16 4,0⟩,.int .i64 0]) (by simp only[results,Tryz.results97,Ins.val,Ins.cells,Ins.zero];go_simp) rfl ⟨rfl,?_⟩
 ((repeat with_reducible refine Below.setCell ?_ (by simp) _);refine below_call ?_ hb;repeat (first | with_reducible exact Below.refl _ _ | with_reducible refine Below.setCell ?_ (by simp) _ | with_reducible refine below_drewN ?_ _ | with_reducible refine Below.alloc ?_ (by simp) _))
theorem risc_decode_0_no (x:Int) (U V:Bool) (w:World) (hx:0≤x) (hx':x<4294967296) (h30:x / 1073741824=0) (hU:(x / 536870912 % 2==1)=U) (hV:(x / 268435456 % 2==1)=V) (err r:Int) (hn:Hid (err≠0∨r≠x)) 
  (HE:Hid (∀ W,Calls Tryz.prog 111 #[Ins.val ⟨0,U,V,Get x 24 4,Get x 20 4,x % 16,Get x 16 4,0⟩] W fun q w'=>q=.returned (.tuple #[.int .u32 r,.int .i64 err])∧Below W.heap.size W w')) :
  Calls Tryz.prog 97 #[.int .u32 x] w fun q w'=>q=.returned (.tuple #[Ins.val Ins.zero,.int .i64 20])∧Below w.heap.size w w':=by
 have a1:=get_bd x 24 4 hx hx'
 have a2:=get_bd x 20 4 hx hx'
 have a3:=get_bd x 16 4 hx hx'
 have e1:=extend_bd x 20
 have e2:=extend_bd x 24
 have n1:=and_1 (x / 536870912) (by omega) (by omega)
 have n2:=and_1 (x / 268435456) (by omega) (by omega)
 have n3:=and_15 x hx hx'
 have n4:IntKind.u16.wrap x=x % 65536:=by simp[IntKind.wrap,IntKind.bits,IntKind.signed]
 go_enter Tryz.func97,Tryz.ntmps97
 go_wp2_with fail
 refine(bits_get x 24 4 _ hx hx' (by omega) (by omega) (by omega) (by omega)).mono ?_
 rintro e w' ⟨rfl,d0,rfl⟩
 go_wp2_with fail
 refine(bits_get x 20 4 _ hx hx' (by omega) (by omega) (by omega) (by omega)).mono ?_
 rintro e w' ⟨rfl,d1,rfl⟩
 go_wp2_with fail
 refine(bits_get x 16 4 _ hx hx' (by omega) (by omega) (by omega) (by omega)).mono ?_
 rintro e w' ⟨rfl,d2,rfl⟩
 go_wp2_with fail
 refine(HE.out _).mono ?_
 rintro e w1 ⟨rfl,hb⟩
 obtain⟨hc,hf⟩:=bcell hb
 have hz:=hb.size
 simp at hz
 have c0:w1.cell? ⟨w.heap.size,0,none⟩=some (.int .i64 0):=(hb.cell (p:=⟨w.heap.size,0,none⟩) (by simp;omega)).trans (by go_simp)
 have c1:w1.cell? ⟨w.heap.size,1,none⟩=some (.bool false):=(hb.cell (p:=⟨w.heap.size,1,none⟩) (by simp;omega)).trans (by go_simp)
 have c2:w1.cell? ⟨w.heap.size,2,none⟩=some (.bool false):=(hb.cell (p:=⟨w.heap.size,2,none⟩) (by simp;omega)).trans (by go_simp)
 have c3:w1.cell? ⟨w.heap.size,3,none⟩=some (.int .i64 0):=(hb.cell (p:=⟨w.heap.size,3,none⟩) (by simp;omega)).trans (by go_simp)
 have c4:w1.cell? ⟨w.heap.size,4,none⟩=some (.int .i64 0):=(hb.cell (p:=⟨w.heap.size,4,none⟩) (by simp;omega)).trans (by go_simp)
 have c5:w1.cell? ⟨w.heap.size,5,none⟩=some (.int .i64 0):=(hb.cell (p:=⟨w.heap.size,5,none⟩) (by simp;omega)).trans (by go_simp)
 have c6:w1.cell? ⟨w.heap.size,6,none⟩=some (.int .i64 0):=(hb.cell (p:=⟨w.heap.size,6,none⟩) (by simp;omega)).trans (by go_simp)
 have c7:w1.cell? ⟨w.heap.size,7,none⟩=some (.int .i64 0):=(hb.cell (p:=⟨w.heap.size,7,none⟩) (by simp;omega)).trans (by go_simp)
 go_wp2_with fail
 all_goals first | (exfalso;have:=hn.out;simp_all;done) | skip
 all_goals refine bodyPost_ret (v:=.tuple #[Ins.val Ins.zero,.int .i64 20]) (by simp only[results,Tryz.results97,Ins.val,Ins.cells,Ins.zero];go_simp) rfl ⟨rfl,?_⟩
 all_goals ((repeat with_reducible refine Below.setCell ?_ (by simp) _);refine below_call ?_ hb;repeat (first | with_reducible exact Below.refl _ _ | with_reducible refine Below.setCell ?_ (by simp) _ | with_reducible refine below_drewN ?_ _ | with_reducible refine Below.alloc ?_ (by simp) _))
theorem risc_decode_1_yes (x:Int) (U V:Bool) (w:World) (hx:0≤x) (hx':x<4294967296) (h30:x / 1073741824=1) (hU:(x / 536870912 % 2==1)=U) (hV:(x / 268435456 % 2==1)=V) 
  (HE:Hid (∀ W,Calls Tryz.prog 111 #[Ins.val ⟨1,U,V,Get x 24 4,Get x 20 4,0,Get x 16 4,x % 65536⟩] W fun q w'=>q=.returned (.tuple #[.int .u32 x,.int .i64 0])∧Below W.heap.size W w')) :
  Calls Tryz.prog 97 #[.int .u32 x] w fun q w'=>q=.returned (.tuple #[Ins.val ⟨1,U,V,Get x 24 4,Get x 20 4,0,Get x 16 4,x % 65536⟩,.int .i64 0])∧Below w.heap.size w w':=by
 have a1:=get_bd x 24 4 hx hx'
 have a2:=get_bd x 20 4 hx hx'
 have a3:=get_bd x 16 4 hx hx'
 have e1:=extend_bd x 20
 have e2:=extend_bd x 24
 have n1:=and_1 (x / 536870912) (by omega) (by omega)
 have n2:=and_1 (x / 268435456) (by omega) (by omega)
 have n3:=and_15 x hx hx'
 have n4:IntKind.u16.wrap x=x % 65536:=by simp[IntKind.wrap,IntKind.bits,IntKind.signed]
 go_enter Tryz.func97,Tryz.ntmps97
 go_wp2_with fail
 refine(bits_get x 24 4 _ hx hx' (by omega) (by omega) (by omega) (by omega)).mono ?_
 rintro e w' ⟨rfl,d0,rfl⟩
 go_wp2_with fail
 refine(bits_get x 20 4 _ hx hx' (by omega) (by omega) (by omega) (by omega)).mono ?_
 rintro e w' ⟨rfl,d1,rfl⟩
 go_wp2_with fail
 refine(bits_get x 16 4 _ hx hx' (by omega) (by omega) (by omega) (by omega)).mono ?_
 rintro e w' ⟨rfl,d2,rfl⟩
 go_wp2_with fail
 refine(HE.out _).mono ?_
 rintro e w1 ⟨rfl,hb⟩
 obtain⟨hc,hf⟩:=bcell hb
 have hz:=hb.size
 simp at hz
 have c0:w1.cell? ⟨w.heap.size,0,none⟩=some (.int .i64 0):=(hb.cell (p:=⟨w.heap.size,0,none⟩) (by simp;omega)).trans (by go_simp)
 have c1:w1.cell? ⟨w.heap.size,1,none⟩=some (.bool false):=(hb.cell (p:=⟨w.heap.size,1,none⟩) (by simp;omega)).trans (by go_simp)
 have c2:w1.cell? ⟨w.heap.size,2,none⟩=some (.bool false):=(hb.cell (p:=⟨w.heap.size,2,none⟩) (by simp;omega)).trans (by go_simp)
 have c3:w1.cell? ⟨w.heap.size,3,none⟩=some (.int .i64 0):=(hb.cell (p:=⟨w.heap.size,3,none⟩) (by simp;omega)).trans (by go_simp)
 have c4:w1.cell? ⟨w.heap.size,4,none⟩=some (.int .i64 0):=(hb.cell (p:=⟨w.heap.size,4,none⟩) (by simp;omega)).trans (by go_simp)
 have c5:w1.cell? ⟨w.heap.size,5,none⟩=some (.int .i64 0):=(hb.cell (p:=⟨w.heap.size,5,none⟩) (by simp;omega)).trans (by go_simp)
 have c6:w1.cell? ⟨w.heap.size,6,none⟩=some (.int .i64 0):=(hb.cell (p:=⟨w.heap.size,6,none⟩) (by simp;omega)).trans (by go_simp)
 have c7:w1.cell? ⟨w.heap.size,7,none⟩=some (.int .i64 0):=(hb.cell (p:=⟨w.heap.size,7,none⟩) (by simp;omega)).trans (by go_simp)
 go_wp2_with fail
 refine bodyPost_ret (v:=.tuple #[Ins.val ⟨1,U,V,Get x 24 4,Get x 20 4,0,Get x 16 4,x % 65536⟩,.int .i64 0]) (by simp only[results,Tryz.results97,Ins.val,Ins.cells,Ins.zero];go_simp) rfl ⟨rfl,?_⟩
 ((repeat with_reducible refine Below.setCell ?_ (by simp) _);refine below_call ?_ hb;repeat (first | with_reducible exact Below.refl _ _ | with_reducible refine Below.setCell ?_ (by simp) _ | with_reducible refine below_drewN ?_ _ | with_reducible refine Below.alloc ?_ (by simp) _))
theorem risc_decode_1_no (x:Int) (U V:Bool) (w:World) (hx:0≤x) (hx':x<4294967296) (h30:x / 1073741824=1) (hU:(x / 536870912 % 2==1)=U) (hV:(x / 268435456 % 2==1)=V) (err r:Int) (hn:Hid (err≠0∨r≠x)) 
  (HE:Hid (∀ W,Calls Tryz.prog 111 #[Ins.val ⟨1,U,V,Get x 24 4,Get x 20 4,0,Get x 16 4,x % 65536⟩] W fun q w'=>q=.returned (.tuple #[.int .u32 r,.int .i64 err])∧Below W.heap.size W w')) :
  Calls Tryz.prog 97 #[.int .u32 x] w fun q w'=>q=.returned (.tuple #[Ins.val Ins.zero,.int .i64 20])∧Below w.heap.size w w':=by
 have a1:=get_bd x 24 4 hx hx'
 have a2:=get_bd x 20 4 hx hx'
 have a3:=get_bd x 16 4 hx hx'
 have e1:=extend_bd x 20
 have e2:=extend_bd x 24
 have n1:=and_1 (x / 536870912) (by omega) (by omega)
 have n2:=and_1 (x / 268435456) (by omega) (by omega)
 have n3:=and_15 x hx hx'
 have n4:IntKind.u16.wrap x=x % 65536:=by simp[IntKind.wrap,IntKind.bits,IntKind.signed]
 go_enter Tryz.func97,Tryz.ntmps97
 go_wp2_with fail
 refine(bits_get x 24 4 _ hx hx' (by omega) (by omega) (by omega) (by omega)).mono ?_
 rintro e w' ⟨rfl,d0,rfl⟩
 go_wp2_with fail
 refine(bits_get x 20 4 _ hx hx' (by omega) (by omega) (by omega) (by omega)).mono ?_
 rintro e w' ⟨rfl,d1,rfl⟩
 go_wp2_with fail
 refine(bits_get x 16 4 _ hx hx' (by omega) (by omega) (by omega) (by omega)).mono ?_
 rintro e w' ⟨rfl,d2,rfl⟩
 go_wp2_with fail
 refine(HE.out _).mono ?_
 rintro e w1 ⟨rfl,hb⟩
 obtain⟨hc,hf⟩:=bcell hb
 have hz:=hb.size
 simp at hz
 have c0:w1.cell? ⟨w.heap.size,0,none⟩=some (.int .i64 0):=(hb.cell (p:=⟨w.heap.size,0,none⟩) (by simp;omega)).trans (by go_simp)
 have c1:w1.cell? ⟨w.heap.size,1,none⟩=some (.bool false):=(hb.cell (p:=⟨w.heap.size,1,none⟩) (by simp;omega)).trans (by go_simp)
 have c2:w1.cell? ⟨w.heap.size,2,none⟩=some (.bool false):=(hb.cell (p:=⟨w.heap.size,2,none⟩) (by simp;omega)).trans (by go_simp)
 have c3:w1.cell? ⟨w.heap.size,3,none⟩=some (.int .i64 0):=(hb.cell (p:=⟨w.heap.size,3,none⟩) (by simp;omega)).trans (by go_simp)
 have c4:w1.cell? ⟨w.heap.size,4,none⟩=some (.int .i64 0):=(hb.cell (p:=⟨w.heap.size,4,none⟩) (by simp;omega)).trans (by go_simp)
 have c5:w1.cell? ⟨w.heap.size,5,none⟩=some (.int .i64 0):=(hb.cell (p:=⟨w.heap.size,5,none⟩) (by simp;omega)).trans (by go_simp)
 have c6:w1.cell? ⟨w.heap.size,6,none⟩=some (.int .i64 0):=(hb.cell (p:=⟨w.heap.size,6,none⟩) (by simp;omega)).trans (by go_simp)
 have c7:w1.cell? ⟨w.heap.size,7,none⟩=some (.int .i64 0):=(hb.cell (p:=⟨w.heap.size,7,none⟩) (by simp;omega)).trans (by go_simp)
 go_wp2_with fail
 all_goals first | (exfalso;have:=hn.out;simp_all;done) | skip
 all_goals refine bodyPost_ret (v:=.tuple #[Ins.val Ins.zero,.int .i64 20]) (by simp only[results,Tryz.results97,Ins.val,Ins.cells,Ins.zero];go_simp) rfl ⟨rfl,?_⟩
 all_goals ((repeat with_reducible refine Below.setCell ?_ (by simp) _);refine below_call ?_ hb;repeat (first | with_reducible exact Below.refl _ _ | with_reducible refine Below.setCell ?_ (by simp) _ | with_reducible refine below_drewN ?_ _ | with_reducible refine Below.alloc ?_ (by simp) _))
theorem risc_decode_2_yes (x:Int) (U V:Bool) (w:World) (hx:0≤x) (hx':x<4294967296) (h30:x / 1073741824=2) (hU:(x / 536870912 % 2==1)=U) (hV:(x / 268435456 % 2==1)=V) 
  (HE:Hid (∀ W,Calls Tryz.prog 111 #[Ins.val ⟨2,U,V,Get x 24 4,Get x 20 4,0,0,Extend x 20⟩] W fun q w'=>q=.returned (.tuple #[.int .u32 x,.int .i64 0])∧Below W.heap.size W w')) :
  Calls Tryz.prog 97 #[.int .u32 x] w fun q w'=>q=.returned (.tuple #[Ins.val ⟨2,U,V,Get x 24 4,Get x 20 4,0,0,Extend x 20⟩,.int .i64 0])∧Below w.heap.size w w':=by
 have a1:=get_bd x 24 4 hx hx'
 have a2:=get_bd x 20 4 hx hx'
 have a3:=get_bd x 16 4 hx hx'
 have e1:=extend_bd x 20
 have e2:=extend_bd x 24
 have n1:=and_1 (x / 536870912) (by omega) (by omega)
 have n2:=and_1 (x / 268435456) (by omega) (by omega)
 have n3:=and_15 x hx hx'
 have n4:IntKind.u16.wrap x=x % 65536:=by simp[IntKind.wrap,IntKind.bits,IntKind.signed]
 go_enter Tryz.func97,Tryz.ntmps97
 go_wp2_with fail
 refine(bits_get x 24 4 _ hx hx' (by omega) (by omega) (by omega) (by omega)).mono ?_
 rintro e w' ⟨rfl,d0,rfl⟩
 go_wp2_with fail
 refine(bits_get x 20 4 _ hx hx' (by omega) (by omega) (by omega) (by omega)).mono ?_
 rintro e w' ⟨rfl,d1,rfl⟩
 go_wp2_with fail
 refine(bits_extend x 20 _ hx hx').mono ?_
 rintro e w' ⟨rfl,rfl⟩
 go_wp2_with fail
 refine(HE.out _).mono ?_
 rintro e w1 ⟨rfl,hb⟩
 obtain⟨hc,hf⟩:=bcell hb
 have hz:=hb.size
 simp at hz
 have c0:w1.cell? ⟨w.heap.size,0,none⟩=some (.int .i64 0):=(hb.cell (p:=⟨w.heap.size,0,none⟩) (by simp;omega)).trans (by go_simp)
 have c1:w1.cell? ⟨w.heap.size,1,none⟩=some (.bool false):=(hb.cell (p:=⟨w.heap.size,1,none⟩) (by simp;omega)).trans (by go_simp)
 have c2:w1.cell? ⟨w.heap.size,2,none⟩=some (.bool false):=(hb.cell (p:=⟨w.heap.size,2,none⟩) (by simp;omega)).trans (by go_simp)
 have c3:w1.cell? ⟨w.heap.size,3,none⟩=some (.int .i64 0):=(hb.cell (p:=⟨w.heap.size,3,none⟩) (by simp;omega)).trans (by go_simp)
 have c4:w1.cell? ⟨w.heap.size,4,none⟩=some (.int .i64 0):=(hb.cell (p:=⟨w.heap.size,4,none⟩) (by simp;omega)).trans (by go_simp)
 have c5:w1.cell? ⟨w.heap.size,5,none⟩=some (.int .i64 0):=(hb.cell (p:=⟨w.heap.size,5,none⟩) (by simp;omega)).trans (by go_simp)
 have c6:w1.cell? ⟨w.heap.size,6,none⟩=some (.int .i64 0):=(hb.cell (p:=⟨w.heap.size,6,none⟩) (by simp;omega)).trans (by go_simp)
 have c7:w1.cell? ⟨w.heap.size,7,none⟩=some (.int .i64 0):=(hb.cell (p:=⟨w.heap.size,7,none⟩) (by simp;omega)).trans (by go_simp)
 go_wp2_with fail
 refine bodyPost_ret (v:=.tuple #[Ins.val ⟨2,U,V,Get x 24 4,Get x 20 4,0,0,Extend x 20⟩,.int .i64 0]) (by simp only[results,Tryz.results97,Ins.val,Ins.cells,Ins.zero];go_simp) rfl ⟨rfl,?_⟩
 ((repeat with_reducible refine Below.setCell ?_ (by simp) _);refine below_call ?_ hb;repeat (first | with_reducible exact Below.refl _ _ | with_reducible refine Below.setCell ?_ (by simp) _ | with_reducible refine below_drewN ?_ _ | with_reducible refine Below.alloc ?_ (by simp) _))
theorem risc_decode_2_no (x:Int) (U V:Bool) (w:World) (hx:0≤x) (hx':x<4294967296) (h30:x / 1073741824=2) (hU:(x / 536870912 % 2==1)=U) (hV:(x / 268435456 % 2==1)=V) (err r:Int) (hn:Hid (err≠0∨r≠x)) 
  (HE:Hid (∀ W,Calls Tryz.prog 111 #[Ins.val ⟨2,U,V,Get x 24 4,Get x 20 4,0,0,Extend x 20⟩] W fun q w'=>q=.returned (.tuple #[.int .u32 r,.int .i64 err])∧Below W.heap.size W w')) :
  Calls Tryz.prog 97 #[.int .u32 x] w fun q w'=>q=.returned (.tuple #[Ins.val Ins.zero,.int .i64 20])∧Below w.heap.size w w':=by
 have a1:=get_bd x 24 4 hx hx'
 have a2:=get_bd x 20 4 hx hx'
 have a3:=get_bd x 16 4 hx hx'
 have e1:=extend_bd x 20
 have e2:=extend_bd x 24
 have n1:=and_1 (x / 536870912) (by omega) (by omega)
 have n2:=and_1 (x / 268435456) (by omega) (by omega)
 have n3:=and_15 x hx hx'
 have n4:IntKind.u16.wrap x=x % 65536:=by simp[IntKind.wrap,IntKind.bits,IntKind.signed]
 go_enter Tryz.func97,Tryz.ntmps97
 go_wp2_with fail
 refine(bits_get x 24 4 _ hx hx' (by omega) (by omega) (by omega) (by omega)).mono ?_
 rintro e w' ⟨rfl,d0,rfl⟩
 go_wp2_with fail
 refine(bits_get x 20 4 _ hx hx' (by omega) (by omega) (by omega) (by omega)).mono ?_
 rintro e w' ⟨rfl,d1,rfl⟩
 go_wp2_with fail
 refine(bits_extend x 20 _ hx hx').mono ?_
 rintro e w' ⟨rfl,rfl⟩
 go_wp2_with fail
 refine(HE.out _).mono ?_
 rintro e w1 ⟨rfl,hb⟩
 obtain⟨hc,hf⟩:=bcell hb
 have hz:=hb.size
 simp at hz
 have c0:w1.cell? ⟨w.heap.size,0,none⟩=some (.int .i64 0):=(hb.cell (p:=⟨w.heap.size,0,none⟩) (by simp;omega)).trans (by go_simp)
 have c1:w1.cell? ⟨w.heap.size,1,none⟩=some (.bool false):=(hb.cell (p:=⟨w.heap.size,1,none⟩) (by simp;omega)).trans (by go_simp)
 have c2:w1.cell? ⟨w.heap.size,2,none⟩=some (.bool false):=(hb.cell (p:=⟨w.heap.size,2,none⟩) (by simp;omega)).trans (by go_simp)
 have c3:w1.cell? ⟨w.heap.size,3,none⟩=some (.int .i64 0):=(hb.cell (p:=⟨w.heap.size,3,none⟩) (by simp;omega)).trans (by go_simp)
 have c4:w1.cell? ⟨w.heap.size,4,none⟩=some (.int .i64 0):=(hb.cell (p:=⟨w.heap.size,4,none⟩) (by simp;omega)).trans (by go_simp)
 have c5:w1.cell? ⟨w.heap.size,5,none⟩=some (.int .i64 0):=(hb.cell (p:=⟨w.heap.size,5,none⟩) (by simp;omega)).trans (by go_simp)
 have c6:w1.cell? ⟨w.heap.size,6,none⟩=some (.int .i64 0):=(hb.cell (p:=⟨w.heap.size,6,none⟩) (by simp;omega)).trans (by go_simp)
 have c7:w1.cell? ⟨w.heap.size,7,none⟩=some (.int .i64 0):=(hb.cell (p:=⟨w.heap.size,7,none⟩) (by simp;omega)).trans (by go_simp)
 go_wp2_with fail
 all_goals first | (exfalso;have:=hn.out;simp_all;done) | skip
 all_goals refine bodyPost_ret (v:=.tuple #[Ins.val Ins.zero,.int .i64 20]) (by simp only[results,Tryz.results97,Ins.val,Ins.cells,Ins.zero];go_simp) rfl ⟨rfl,?_⟩
 all_goals ((repeat with_reducible refine Below.setCell ?_ (by simp) _);refine below_call ?_ hb;repeat (first | with_reducible exact Below.refl _ _ | with_reducible refine Below.setCell ?_ (by simp) _ | with_reducible refine below_drewN ?_ _ | with_reducible refine Below.alloc ?_ (by simp) _))
theorem risc_decode_3t_yes (x:Int) (V:Bool) (w:World) (hx:0≤x) (hx':x<4294967296) (h30:x / 1073741824=3) (hU:(x / 536870912 % 2==1)=true) (hV:(x / 268435456 % 2==1)=V) 
  (HE:Hid (∀ W,Calls Tryz.prog 111 #[Ins.val ⟨3,true,V,Get x 24 4,0,0,0,Extend x 24⟩] W fun q w'=>q=.returned (.tuple #[.int .u32 x,.int .i64 0])∧Below W.heap.size W w')) :
  Calls Tryz.prog 97 #[.int .u32 x] w fun q w'=>q=.returned (.tuple #[Ins.val ⟨3,true,V,Get x 24 4,0,0,0,Extend x 24⟩,.int .i64 0])∧Below w.heap.size w w':=by
 have a1:=get_bd x 24 4 hx hx'
 have a2:=get_bd x 20 4 hx hx'
 have a3:=get_bd x 16 4 hx hx'
 have e1:=extend_bd x 20
 have e2:=extend_bd x 24
 have n1:=and_1 (x / 536870912) (by omega) (by omega)
 have n2:=and_1 (x / 268435456) (by omega) (by omega)
 have n3:=and_15 x hx hx'
 have n4:IntKind.u16.wrap x=x % 65536:=by simp[IntKind.wrap,IntKind.bits,IntKind.signed]
 go_enter Tryz.func97,Tryz.ntmps97
 go_wp2_with fail
 refine(bits_get x 24 4 _ hx hx' (by omega) (by omega) (by omega) (by omega)).mono ?_
 rintro e w' ⟨rfl,d0,rfl⟩
 go_wp2_with fail
 refine(bits_extend x 24 _ hx hx').mono ?_
 rintro e w' ⟨rfl,rfl⟩
 go_wp2_with fail
 refine(HE.out _).mono ?_
 rintro e w1 ⟨rfl,hb⟩
 obtain⟨hc,hf⟩:=bcell hb
 have hz:=hb.size
 simp at hz
 have c0:w1.cell? ⟨w.heap.size,0,none⟩=some (.int .i64 0):=(hb.cell (p:=⟨w.heap.size,0,none⟩) (by simp;omega)).trans (by go_simp)
 have c1:w1.cell? ⟨w.heap.size,1,none⟩=some (.bool false):=(hb.cell (p:=⟨w.heap.size,1,none⟩) (by simp;omega)).trans (by go_simp)
 have c2:w1.cell? ⟨w.heap.size,2,none⟩=some (.bool false):=(hb.cell (p:=⟨w.heap.size,2,none⟩) (by simp;omega)).trans (by go_simp)
 have c3:w1.cell? ⟨w.heap.size,3,none⟩=some (.int .i64 0):=(hb.cell (p:=⟨w.heap.size,3,none⟩) (by simp;omega)).trans (by go_simp)
 have c4:w1.cell? ⟨w.heap.size,4,none⟩=some (.int .i64 0):=(hb.cell (p:=⟨w.heap.size,4,none⟩) (by simp;omega)).trans (by go_simp)
 have c5:w1.cell? ⟨w.heap.size,5,none⟩=some (.int .i64 0):=(hb.cell (p:=⟨w.heap.size,5,none⟩) (by simp;omega)).trans (by go_simp)
 have c6:w1.cell? ⟨w.heap.size,6,none⟩=some (.int .i64 0):=(hb.cell (p:=⟨w.heap.size,6,none⟩) (by simp;omega)).trans (by go_simp)
 have c7:w1.cell? ⟨w.heap.size,7,none⟩=some (.int .i64 0):=(hb.cell (p:=⟨w.heap.size,7,none⟩) (by simp;omega)).trans (by go_simp)
 go_wp2_with fail
 refine bodyPost_ret (v:=.tuple #[Ins.val ⟨3,true,V,Get x 24 4,0,0,0,Extend x 24⟩,.int .i64 0]) (by simp only[results,Tryz.results97,Ins.val,Ins.cells,Ins.zero];go_simp) rfl ⟨rfl,?_⟩
 ((repeat with_reducible refine Below.setCell ?_ (by simp) _);refine below_call ?_ hb;repeat (first | with_reducible exact Below.refl _ _ | with_reducible refine Below.setCell ?_ (by simp) _ | with_reducible refine below_drewN ?_ _ | with_reducible refine Below.alloc ?_ (by simp) _))
theorem risc_decode_3t_no (x:Int) (V:Bool) (w:World) (hx:0≤x) (hx':x<4294967296) (h30:x / 1073741824=3) (hU:(x / 536870912 % 2==1)=true) (hV:(x / 268435456 % 2==1)=V) (err r:Int) (hn:Hid (err≠0∨r≠x)) 
  (HE:Hid (∀ W,Calls Tryz.prog 111 #[Ins.val ⟨3,true,V,Get x 24 4,0,0,0,Extend x 24⟩] W fun q w'=>q=.returned (.tuple #[.int .u32 r,.int .i64 err])∧Below W.heap.size W w')) :
  Calls Tryz.prog 97 #[.int .u32 x] w fun q w'=>q=.returned (.tuple #[Ins.val Ins.zero,.int .i64 20])∧Below w.heap.size w w':=by
 have a1:=get_bd x 24 4 hx hx'
 have a2:=get_bd x 20 4 hx hx'
 have a3:=get_bd x 16 4 hx hx'
 have e1:=extend_bd x 20
 have e2:=extend_bd x 24
 have n1:=and_1 (x / 536870912) (by omega) (by omega)
 have n2:=and_1 (x / 268435456) (by omega) (by omega)
 have n3:=and_15 x hx hx'
 have n4:IntKind.u16.wrap x=x % 65536:=by simp[IntKind.wrap,IntKind.bits,IntKind.signed]
 go_enter Tryz.func97,Tryz.ntmps97
 go_wp2_with fail
 refine(bits_get x 24 4 _ hx hx' (by omega) (by omega) (by omega) (by omega)).mono ?_
 rintro e w' ⟨rfl,d0,rfl⟩
 go_wp2_with fail
 refine(bits_extend x 24 _ hx hx').mono ?_
 rintro e w' ⟨rfl,rfl⟩
 go_wp2_with fail
 refine(HE.out _).mono ?_
 rintro e w1 ⟨rfl,hb⟩
 obtain⟨hc,hf⟩:=bcell hb
 have hz:=hb.size
 simp at hz
 have c0:w1.cell? ⟨w.heap.size,0,none⟩=some (.int .i64 0):=(hb.cell (p:=⟨w.heap.size,0,none⟩) (by simp;omega)).trans (by go_simp)
 have c1:w1.cell? ⟨w.heap.size,1,none⟩=some (.bool false):=(hb.cell (p:=⟨w.heap.size,1,none⟩) (by simp;omega)).trans (by go_simp)
 have c2:w1.cell? ⟨w.heap.size,2,none⟩=some (.bool false):=(hb.cell (p:=⟨w.heap.size,2,none⟩) (by simp;omega)).trans (by go_simp)
 have c3:w1.cell? ⟨w.heap.size,3,none⟩=some (.int .i64 0):=(hb.cell (p:=⟨w.heap.size,3,none⟩) (by simp;omega)).trans (by go_simp)
 have c4:w1.cell? ⟨w.heap.size,4,none⟩=some (.int .i64 0):=(hb.cell (p:=⟨w.heap.size,4,none⟩) (by simp;omega)).trans (by go_simp)
 have c5:w1.cell? ⟨w.heap.size,5,none⟩=some (.int .i64 0):=(hb.cell (p:=⟨w.heap.size,5,none⟩) (by simp;omega)).trans (by go_simp)
 have c6:w1.cell? ⟨w.heap.size,6,none⟩=some (.int .i64 0):=(hb.cell (p:=⟨w.heap.size,6,none⟩) (by simp;omega)).trans (by go_simp)
 have c7:w1.cell? ⟨w.heap.size,7,none⟩=some (.int .i64 0):=(hb.cell (p:=⟨w.heap.size,7,none⟩) (by simp;omega)).trans (by go_simp)
 go_wp2_with fail
 all_goals first | (exfalso;have:=hn.out;simp_all;done) | skip
 all_goals refine bodyPost_ret (v:=.tuple #[Ins.val Ins.zero,.int .i64 20]) (by simp only[results,Tryz.results97,Ins.val,Ins.cells,Ins.zero];go_simp) rfl ⟨rfl,?_⟩
 all_goals ((repeat with_reducible refine Below.setCell ?_ (by simp) _);refine below_call ?_ hb;repeat (first | with_reducible exact Below.refl _ _ | with_reducible refine Below.setCell ?_ (by simp) _ | with_reducible refine below_drewN ?_ _ | with_reducible refine Below.alloc ?_ (by simp) _))
theorem risc_decode_3f_yes (x:Int) (V:Bool) (w:World) (hx:0≤x) (hx':x<4294967296) (h30:x / 1073741824=3) (hU:(x / 536870912 % 2==1)=false) (hV:(x / 268435456 % 2==1)=V) 
  (HE:Hid (∀ W,Calls Tryz.prog 111 #[Ins.val ⟨3,false,V,Get x 24 4,0,x % 16,0,0⟩] W fun q w'=>q=.returned (.tuple #[.int .u32 x,.int .i64 0])∧Below W.heap.size W w')) :
  Calls Tryz.prog 97 #[.int .u32 x] w fun q w'=>q=.returned (.tuple #[Ins.val ⟨3,false,V,Get x 24 4,0,x % 16,0,0⟩,.int .i64 0])∧Below w.heap.size w w':=by
 have a1:=get_bd x 24 4 hx hx'
 have a2:=get_bd x 20 4 hx hx'
 have a3:=get_bd x 16 4 hx hx'
 have e1:=extend_bd x 20
 have e2:=extend_bd x 24
 have n1:=and_1 (x / 536870912) (by omega) (by omega)
 have n2:=and_1 (x / 268435456) (by omega) (by omega)
 have n3:=and_15 x hx hx'
 have n4:IntKind.u16.wrap x=x % 65536:=by simp[IntKind.wrap,IntKind.bits,IntKind.signed]
 go_enter Tryz.func97,Tryz.ntmps97
 go_wp2_with fail
 refine(bits_get x 24 4 _ hx hx' (by omega) (by omega) (by omega) (by omega)).mono ?_
 rintro e w' ⟨rfl,d0,rfl⟩
 go_wp2_with fail
 refine(HE.out _).mono ?_
 rintro e w1 ⟨rfl,hb⟩
 obtain⟨hc,hf⟩:=bcell hb
 have hz:=hb.size
 simp at hz
 have c0:w1.cell? ⟨w.heap.size,0,none⟩=some (.int .i64 0):=(hb.cell (p:=⟨w.heap.size,0,none⟩) (by simp;omega)).trans (by go_simp)
 have c1:w1.cell? ⟨w.heap.size,1,none⟩=some (.bool false):=(hb.cell (p:=⟨w.heap.size,1,none⟩) (by simp;omega)).trans (by go_simp)
 have c2:w1.cell? ⟨w.heap.size,2,none⟩=some (.bool false):=(hb.cell (p:=⟨w.heap.size,2,none⟩) (by simp;omega)).trans (by go_simp)
 have c3:w1.cell? ⟨w.heap.size,3,none⟩=some (.int .i64 0):=(hb.cell (p:=⟨w.heap.size,3,none⟩) (by simp;omega)).trans (by go_simp)
 have c4:w1.cell? ⟨w.heap.size,4,none⟩=some (.int .i64 0):=(hb.cell (p:=⟨w.heap.size,4,none⟩) (by simp;omega)).trans (by go_simp)
 have c5:w1.cell? ⟨w.heap.size,5,none⟩=some (.int .i64 0):=(hb.cell (p:=⟨w.heap.size,5,none⟩) (by simp;omega)).trans (by go_simp)
 have c6:w1.cell? ⟨w.heap.size,6,none⟩=some (.int .i64 0):=(hb.cell (p:=⟨w.heap.size,6,none⟩) (by simp;omega)).trans (by go_simp)
 have c7:w1.cell? ⟨w.heap.size,7,none⟩=some (.int .i64 0):=(hb.cell (p:=⟨w.heap.size,7,none⟩) (by simp;omega)).trans (by go_simp)
 go_wp2_with fail
 refine bodyPost_ret (v:=.tuple #[Ins.val ⟨3,false,V,Get x 24 4,0,x % 16,0,0⟩,.int .i64 0]) (by simp only[results,Tryz.results97,Ins.val,Ins.cells,Ins.zero];go_simp) rfl ⟨rfl,?_⟩
 ((repeat with_reducible refine Below.setCell ?_ (by simp) _);refine below_call ?_ hb;repeat (first | with_reducible exact Below.refl _ _ | with_reducible refine Below.setCell ?_ (by simp) _ | with_reducible refine below_drewN ?_ _ | with_reducible refine Below.alloc ?_ (by simp) _))
theorem risc_decode_3f_no (x:Int) (V:Bool) (w:World) (hx:0≤x) (hx':x<4294967296) (h30:x / 1073741824=3) (hU:(x / 536870912 % 2==1)=false) (hV:(x / 268435456 % 2==1)=V) (err r:Int) (hn:Hid (err≠0∨r≠x)) 
  (HE:Hid (∀ W,Calls Tryz.prog 111 #[Ins.val ⟨3,false,V,Get x 24 4,0,x % 16,0,0⟩] W fun q w'=>q=.returned (.tuple #[.int .u32 r,.int .i64 err])∧Below W.heap.size W w')) :
  Calls Tryz.prog 97 #[.int .u32 x] w fun q w'=>q=.returned (.tuple #[Ins.val Ins.zero,.int .i64 20])∧Below w.heap.size w w':=by
 have a1:=get_bd x 24 4 hx hx'
 have a2:=get_bd x 20 4 hx hx'
 have a3:=get_bd x 16 4 hx hx'
 have e1:=extend_bd x 20
 have e2:=extend_bd x 24
 have n1:=and_1 (x / 536870912) (by omega) (by omega)
 have n2:=and_1 (x / 268435456) (by omega) (by omega)
 have n3:=and_15 x hx hx'
 have n4:IntKind.u16.wrap x=x % 65536:=by simp[IntKind.wrap,IntKind.bits,IntKind.signed]
 go_enter Tryz.func97,Tryz.ntmps97
 go_wp2_with fail
 refine(bits_get x 24 4 _ hx hx' (by omega) (by omega) (by omega) (by omega)).mono ?_
 rintro e w' ⟨rfl,d0,rfl⟩
 go_wp2_with fail
 refine(HE.out _).mono ?_
 rintro e w1 ⟨rfl,hb⟩
 obtain⟨hc,hf⟩:=bcell hb
 have hz:=hb.size
 simp at hz
 have c0:w1.cell? ⟨w.heap.size,0,none⟩=some (.int .i64 0):=(hb.cell (p:=⟨w.heap.size,0,none⟩) (by simp;omega)).trans (by go_simp)
 have c1:w1.cell? ⟨w.heap.size,1,none⟩=some (.bool false):=(hb.cell (p:=⟨w.heap.size,1,none⟩) (by simp;omega)).trans (by go_simp)
 have c2:w1.cell? ⟨w.heap.size,2,none⟩=some (.bool false):=(hb.cell (p:=⟨w.heap.size,2,none⟩) (by simp;omega)).trans (by go_simp)
 have c3:w1.cell? ⟨w.heap.size,3,none⟩=some (.int .i64 0):=(hb.cell (p:=⟨w.heap.size,3,none⟩) (by simp;omega)).trans (by go_simp)
 have c4:w1.cell? ⟨w.heap.size,4,none⟩=some (.int .i64 0):=(hb.cell (p:=⟨w.heap.size,4,none⟩) (by simp;omega)).trans (by go_simp)
 have c5:w1.cell? ⟨w.heap.size,5,none⟩=some (.int .i64 0):=(hb.cell (p:=⟨w.heap.size,5,none⟩) (by simp;omega)).trans (by go_simp)
 have c6:w1.cell? ⟨w.heap.size,6,none⟩=some (.int .i64 0):=(hb.cell (p:=⟨w.heap.size,6,none⟩) (by simp;omega)).trans (by go_simp)
 have c7:w1.cell? ⟨w.heap.size,7,none⟩=some (.int .i64 0):=(hb.cell (p:=⟨w.heap.size,7,none⟩) (by simp;omega)).trans (by go_simp)
 go_wp2_with fail
 all_goals first | (exfalso;have:=hn.out;simp_all;done) | skip
 all_goals refine bodyPost_ret (v:=.tuple #[Ins.val Ins.zero,.int .i64 20]) (by simp only[results,Tryz.results97,Ins.val,Ins.cells,Ins.zero];go_simp) rfl ⟨rfl,?_⟩
 all_goals ((repeat with_reducible refine Below.setCell ?_ (by simp) _);refine below_call ?_ hb;repeat (first | with_reducible exact Below.refl _ _ | with_reducible refine Below.setCell ?_ (by simp) _ | with_reducible refine below_drewN ?_ _ | with_reducible refine Below.alloc ?_ (by simp) _))
end Go.Proofs.YtceflhffilldeaaGreat
namespace Go.Proofs.YtceflhffilldeaaGreat
open Go.RowKit Bw
theorem isIns_yes {x:Int} {X:Ins} (hX:Ins.decF x=X) (h:Ins.isIns x=true):X.E=x∧X.eerr=0:=by
 subst hX
 simp only[Ins.isIns,Bool.and_eq_true,beq_iff_eq] at h
 exact⟨by rw[Ins.E,if_pos h.1];exact h.2,by rw[Ins.eerr,if_pos h.1]⟩
theorem isIns_no {x:Int} {X:Ins} (hX:Ins.decF x=X) (h:Ins.isIns x=false):X.eerr≠0∨X.E≠x:=by
 subst hX
 cases hg:(Ins.decF x).good
 ·left;simp[Ins.eerr,hg]
 ·right
  simp only[Ins.isIns,hg,Bool.true_and,beq_eq_false_iff_ne] at h
  simpa [Ins.E,hg] using h
theorem risc_decode (x:Int) (w:World) (hx:0≤x) (hx':x<4294967296) :
  Calls Tryz.prog 97 #[.int .u32 x] w fun q w'=>q=.returned (.tuple #[(Ins.dec x).val,.int .i64 (Ins.derr x)])∧Below w.heap.size w w':=by
 have hf:=Ins.decF_fits x hx hx'
 have hE:=fun W=>risc_encode_any (Ins.decF x) W hf
 have go:∀ X:Ins,Ins.decF x=X→(∀ W,Calls Tryz.prog 111 #[Ins.val X] W fun q w'=>q=.returned (.tuple #[.int .u32 X.E,.int .i64 X.eerr])∧Below W.heap.size W w'):=fun X h=>by subst h;exact hE
 cases hi:Ins.isIns x
 ·rw[Ins.dec,Ins.derr,hi]
  simp only[Bool.false_eq_true,if_false]
  by_cases h0:x / 1073741824=0
  ·have hX:Ins.decF x=⟨0,decide (x / 536870912 % 2=1),decide (x / 268435456 % 2=1),Get x 24 4,Get x 20 4,x % 16,Get x 16 4,0⟩:=by rw[Ins.decF,if_pos h0]
   exact risc_decode_0_no x _ _ w hx hx' h0 rfl rfl _ _ (isIns_no hX hi) (go _ hX)
  by_cases h1:x / 1073741824=1
  ·have hX:Ins.decF x=⟨1,decide (x / 536870912 % 2=1),decide (x / 268435456 % 2=1),Get x 24 4,Get x 20 4,0,Get x 16 4,x % 65536⟩:=by rw[Ins.decF,if_neg h0,if_pos h1]
   exact risc_decode_1_no x _ _ w hx hx' h1 rfl rfl _ _ (isIns_no hX hi) (go _ hX)
  by_cases h2:x / 1073741824=2
  ·have hX:Ins.decF x=⟨2,decide (x / 536870912 % 2=1),decide (x / 268435456 % 2=1),Get x 24 4,Get x 20 4,0,0,Extend x 20⟩:=by rw[Ins.decF,if_neg h0,if_neg h1,if_pos h2]
   exact risc_decode_2_no x _ _ w hx hx' h2 rfl rfl _ _ (isIns_no hX hi) (go _ hX)
  have h3:x / 1073741824=3:=by omega
  by_cases hu:x / 536870912 % 2=1
  ·have hX:Ins.decF x=⟨3,true,decide (x / 268435456 % 2=1),Get x 24 4,0,0,0,Extend x 24⟩:=by rw[Ins.decF,if_neg h0,if_neg h1,if_neg h2,if_pos hu]
   exact risc_decode_3t_no x _ w hx hx' h3 (by rw[hu];rfl) rfl _ _ (isIns_no hX hi) (go _ hX)
  ·have hX:Ins.decF x=⟨3,false,decide (x / 268435456 % 2=1),Get x 24 4,0,x % 16,0,0⟩:=by rw[Ins.decF,if_neg h0,if_neg h1,if_neg h2,if_neg hu]
   exact risc_decode_3f_no x _ w hx hx' h3 (by simpa using hu) rfl _ _ (isIns_no hX hi) (go _ hX)
 ·rw[Ins.dec,Ins.derr,hi]
  simp only[if_true]
  have yes:∀ X:Ins,Ins.decF x=X→(∀ W,Calls Tryz.prog 111 #[Ins.val X] W fun q w'=>q=.returned (.tuple #[.int .u32 x,.int .i64 0])∧Below W.heap.size W w'):=fun X h W=>by
   have h1:=isIns_yes h hi
   have h2:=go X h W
   rw[h1.1,h1.2] at h2
   exact h2
  by_cases h0:x / 1073741824=0
  ·have hX:Ins.decF x=⟨0,decide (x / 536870912 % 2=1),decide (x / 268435456 % 2=1),Get x 24 4,Get x 20 4,x % 16,Get x 16 4,0⟩:=by rw[Ins.decF,if_pos h0]
   rw[hX];exact risc_decode_0_yes x _ _ w hx hx' h0 rfl rfl (yes _ hX)
  by_cases h1:x / 1073741824=1
  ·have hX:Ins.decF x=⟨1,decide (x / 536870912 % 2=1),decide (x / 268435456 % 2=1),Get x 24 4,Get x 20 4,0,Get x 16 4,x % 65536⟩:=by rw[Ins.decF,if_neg h0,if_pos h1]
   rw[hX];exact risc_decode_1_yes x _ _ w hx hx' h1 rfl rfl (yes _ hX)
  by_cases h2:x / 1073741824=2
  ·have hX:Ins.decF x=⟨2,decide (x / 536870912 % 2=1),decide (x / 268435456 % 2=1),Get x 24 4,Get x 20 4,0,0,Extend x 20⟩:=by rw[Ins.decF,if_neg h0,if_neg h1,if_pos h2]
   rw[hX];exact risc_decode_2_yes x _ _ w hx hx' h2 rfl rfl (yes _ hX)
  have h3:x / 1073741824=3:=by omega
  by_cases hu:x / 536870912 % 2=1
  ·have hX:Ins.decF x=⟨3,true,decide (x / 268435456 % 2=1),Get x 24 4,0,0,0,Extend x 24⟩:=by rw[Ins.decF,if_neg h0,if_neg h1,if_neg h2,if_pos hu]
   rw[hX];exact risc_decode_3t_yes x _ w hx hx' h3 (by rw[hu];rfl) rfl (yes _ hX)
  ·have hX:Ins.decF x=⟨3,false,decide (x / 268435456 % 2=1),Get x 24 4,0,x % 16,0,0⟩:=by rw[Ins.decF,if_neg h0,if_neg h1,if_neg h2,if_neg hu]
   rw[hX];exact risc_decode_3f_yes x _ w hx hx' h3 (by simpa using hu) rfl (yes _ hX)
end Go.Proofs.YtceflhffilldeaaGreat
