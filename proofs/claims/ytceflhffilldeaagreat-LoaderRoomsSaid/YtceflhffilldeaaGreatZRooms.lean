/-
  Joined: ZRooms.
-/
import Derived.Test.YtceflhffilldeaaGreatZWake
set_option linter.unusedVariables false
set_option linter.unusedSimpArgs false
set_option maxRecDepth 100000
set_option maxHeartbeats 16000000
namespace Go.Proofs.YtceflhffilldeaaGreat
open Go.RowKit Go.Maps Go.WideMaps Plays ObjL Ldr
structure RoomsOk (m:Im) (X Y:List Int) (A B:Int):Prop where
 lx:(X.length:Int)=A
 ly:(Y.length:Int)=B
 x4:X.getD 4 0=4*m.end_
 y4:Y.getD 4 0=4*m.end_
 x5:X.getD 5 0=4*(A-128)
 y5:Y.getD 5 0=4*(B-128)
 bx:m.end_≤A-144
 ze:13+(m.n:Int)≤m.end_
theorem rooms_ok {G:Files} {nm:List UInt8} {A B:Int} {m:Im} {X Y:List Int} (hA:256≤A) (hAB:A≤B) (hx:ldLoad G nm A 128=.ok (m,X)) (hy:ldLoad G nm B 128=.ok (m,Y)) (hok:m.Ok):RoomsOk m X Y A B:=by
 obtain⟨-,h2,-⟩:=ldLoad_inv hx
 obtain⟨-,k2,-⟩:=ldLoad_inv hy
 obtain⟨i1,i2,i3,i4,-⟩:=Ldr.image_ok hok hA (by decide) h2
 obtain⟨j1,j2,j3,j4,-⟩:=Ldr.image_ok hok (by omega) (by decide) k2
 have:=(Im.at_bd hok m.n (Nat.le_refl _)).1
 exact⟨by omega,by omega,i3,j3,i4,j4,by omega,by unfold Im.end_;omega⟩
theorem law26_rooms (l:List (BA×BA)) (vs:Value) (nm:List UInt8) (r0 r1:Int) (p0:0≤r0) (p1:r0≤65535) (q0:0≤r1) (q1:r1≤65535) (w:World) (hv:FRow w vs l) (hsz:∀ x∈l,x.1.size≤9223372036854775807∧x.2.size≤9223372036854775807) :
  Calls Tryz.prog 4 #[vs,.string (txt nm),.agg #[.int .u16 r0,.int .u16 r1]] w fun e w'=>e=.returned (.bool true)∧Below w.heap.size w w':=by
 have WK:∀ W',Hid (Calls Tryz.prog 9 #[] W' fun e w'=>e=.returned (.bool true)∧Below W'.heap.size W' w'):=fun W'=>zh (law26_wakes W')
 have hR1:=zh (Blk.new w 42 #[.int .u16 r0,.int .u16 r1])
 have hB1:=zh ((Below.refl w.heap.size w).alloc (Nat.le_refl _) (.cells #[.int .u16 r0,.int .u16 r1] 42))
 have hv1:=zh (hv.below ((Below.refl w.heap.size w).alloc (Nat.le_refl _) (.cells #[.int .u16 r0,.int .u16 r1] 42)))
 have ST:=zh (law26_stores l vs _ hv1.out hsz)
 have hns:=txt_size nm
 clear hv hsz hv1
 go_enter Tryz.func4,Tryz.ntmps4
 go_wp2_with fail
 refine ST.out.mono ?_
 rintro e w2 ⟨p,q,kk,ok,rfl,hS2,hb2,-,-⟩
 have hB2:=zh (hB1.out.trans (hb2.mono hB1.out.size))
 have hR2:=zh (hR1.out.below hb2 hR1.out.lt)
 have hG:=zh (show ∃ N T,∀ W',Below w2.heap.size w2 W'→GetOk (storeG N T) W'.heap.size p W' by
  obtain⟨m,n,v,u,h1,-⟩:=hS2
  exact⟨_,_,fun W' hb=>getOk_of (h1.below hb) (st_rel _ _).1 (st_rel _ _).2⟩)
 clear ST hS2 hb2 hB1 hR1
 cases ok with
 | false=>
  have hBZ:=hB2
  go_wp2_with (go_at_call 9;refine(WK _).out.mono ?_;rintro e wk ⟨rfl,hbk⟩;have hBk:=zh (hBZ.out.trans (hbk.mono hBZ.out.size));clear hbk)
  go_ret
  exact⟨rfl,hBk.out⟩
 | true=>
  by_cases hlong:(1000:Int)<nm.length
  ·have hBZ:=hB2
   go_wp2_with (go_at_call 9;refine(WK _).out.mono ?_;rintro e wk ⟨rfl,hbk⟩;have hBk:=zh (hBZ.out.trans (hbk.mono hBZ.out.size));clear hbk)
   go_ret
   exact⟨rfl,hBk.out⟩
  ·obtain⟨N,T,hGo⟩:=hG.out
   have c0:w2.cell? ⟨w.heap.size,0,none⟩=some (.int .u16 r0):=by have:=hR2.out.cell 0;simpa using this
   have c1:w2.cell? ⟨w.heap.size,1,none⟩=some (.int .u16 r1):=by have:=hR2.out.cell 1;simpa using this
   have t0:r0.tmod 20000=r0 % 20000:=Int.tmod_eq_emod_of_nonneg p0
   have t1:r1.tmod 20000=r1 % 20000:=Int.tmod_eq_emod_of_nonneg q0
   have u0:wrap64 (256+r0 % 20000)=256+r0 % 20000:=by unfold wrap64;omega
   have u1:wrap64 (256+r0 % 20000+r1 % 20000)=256+r0 % 20000+r1 % 20000:=by unfold wrap64;omega
   have hlen:nm.length≤100000:=by omega
   go_upto_region 6 with fail
   obtain⟨a,ha⟩:∃ a,a=256+r0 % 20000:=⟨_,rfl⟩
   obtain⟨b,hb⟩:∃ b,b=256+r0 % 20000+r1 % 20000:=⟨_,rfl⟩
   have hab:256≤a∧a≤b∧b≤40255:=by omega
   rw[← hb,← ha]
   clear ha hb t0 t1 u0 u1 c0 c1 p0 p1 q0 q1 hR2
   have LA:=load_ok _ p w2 (hGo w2 (Below.refl _ _)) nm hlen a 128
   have RM:=rooms_of (G:=storeG N T) (nm:=nm) (fun t o h=>(decO_some h).1) hab.1 hab.2.1 (by omega)
   have LB:∀ W',Below w2.heap.size w2 W'→Calls Tryz.prog 10 #[.pointer (some ⟨p,0,none⟩),.string (txt nm),.agg #[.int .i64 b,.int .i64 128]] W' fun e w'=>LoadAns (ldLoad (storeG N T) nm b 128) e w'∧Below W'.heap.size W' w':=fun W' hb=>load_ok _ p W' (hGo W' hb) nm hlen b 128
   cases RM with
   | no c hx hc hor=>
    rw[hx] at LA
    have LA:=zh LA
    have hcb:(c==0)=false:=by rw[beq_eq_false_iff_ne];exact hc
    have hcb2:(c != 0)=true:=by rw[bne_iff_ne];exact hc
    have hLBh:=zh LB
    clear LB hG hGo hx hc
    go_upto_region 7 with (go_at_call 10;refine LA.out.mono ?_;rintro e w3 ⟨rfl,hb3⟩;have hb3:=zh hb3)
    clear LA
    have hB3:=zh ((hB2.out.trans (hb3.out.mono hB2.out.size)).alloc (Nat.le_trans hB2.out.size hb3.out.size) (.cells #[.slice none 0 0,.int .i64 0,.slice none 0 0] imT))
    have hX3:=zh (Blk.new w3 imT #[.slice none 0 0,.int .i64 0,.slice none 0 0])
    have LB:=hLBh.out _ (hb3.out.alloc hb3.out.size (.cells #[.slice none 0 0,.int .i64 0,.slice none 0 0] imT))
    clear hb3 hLBh hB2
    generalize w3.alloc _=w4 at *
    generalize w3.heap.size=g3 at *
    cases hy:ldLoad (storeG N T) nm b 128 with
    | error c2=>
     have hcc:c=253∨c2=c:=by
      rcases hor with h | h
      ·exact Or.inl h
      ·rw[hy] at h;injection h with h;exact Or.inr h
     rw[hy] at LB
     have LB:=zh LB
     clear hor hy
     go_upto_region 8 with (go_at_call 10;refine LB.out.mono ?_;rintro e w5 ⟨rfl,hb5⟩;have hb5:=zh hb5)
     clear LB
     have hBZ:=zh ((hB3.out.trans (hb5.out.mono hB3.out.size)).alloc (Nat.le_trans hB3.out.size hb5.out.size) (.cells #[.slice none 0 0,.int .i64 0,.slice none 0 0] imT))
     have cx:(w5.alloc (.cells #[.slice none 0 0,.int .i64 0,.slice none 0 0] imT)).cell? ⟨g3,0,none⟩=some (.slice none 0 0):=by have:=(hX3.out.below (hb5.out.alloc hb5.out.size (.cells #[.slice none 0 0,.int .i64 0,.slice none 0 0] imT)) hX3.out.lt).cell 0;simpa using this
     clear hb5 hB3 hX3
     generalize w5.alloc _=w6 at *
     by_cases h253:c=253
     ·subst h253
      go_wp2_with (go_at_call 9;refine(WK _).out.mono ?_;rintro e wk ⟨rfl,hbk⟩;have hBk:=zh (hBZ.out.trans (hbk.mono hBZ.out.size));clear hbk)
      go_ret
      exact⟨rfl,hBk.out⟩
     ·have hc2:c2=c:=by rcases hcc with h | h;exact absurd h h253;exact h
      subst hc2
      have h25:(c2==253)=false:=by rw[beq_eq_false_iff_ne];exact h253
      clear hcc h253
      go_wp2_with (go_at_call 9;refine(WK _).out.mono ?_;rintro e wk ⟨rfl,hbk⟩;have hBk:=zh (hBZ.out.trans (hbk.mono hBZ.out.size));clear hbk)
      go_ret
      exact⟨rfl,hBk.out⟩
    | ok r=>
     obtain⟨m2,Y2⟩:=r
     have h253:c=253:=by
      rcases hor with h | h
      ·exact h
      ·rw[hy] at h;cases h
     subst h253
     rw[hy] at LB
     have LB:=zh LB
     clear hor hy
     go_upto_region 8 with (go_at_call 10;refine LB.out.mono ?_;rintro e w5 ⟨⟨gw2,gm2,cm2,rfl,-⟩,hb5⟩;have hb5:=zh hb5;unfold imCells)
     clear LB
     have hBZ:=zh ((hB3.out.trans (hb5.out.mono hB3.out.size)).alloc (Nat.le_trans hB3.out.size hb5.out.size) (.cells #[.slice (some ⟨gw2,0,none⟩) Y2.length Y2.length,.int .i64 8,.slice (some ⟨gm2,0,none⟩) m2.n cm2] imT))
     have cx:(w5.alloc (.cells #[.slice (some ⟨gw2,0,none⟩) Y2.length Y2.length,.int .i64 8,.slice (some ⟨gm2,0,none⟩) m2.n cm2] imT)).cell? ⟨g3,0,none⟩=some (.slice none 0 0):=by have:=(hX3.out.below (hb5.out.alloc hb5.out.size (.cells #[.slice (some ⟨gw2,0,none⟩) Y2.length Y2.length,.int .i64 8,.slice (some ⟨gm2,0,none⟩) m2.n cm2] imT)) hX3.out.lt).cell 0;simpa using this
     clear hb5 hB3 hX3
     generalize w5.alloc _=w6 at *
     go_wp2_with (go_at_call 9;refine(WK _).out.mono ?_;rintro e wk ⟨rfl,hbk⟩;have hBk:=zh (hBZ.out.trans (hbk.mono hBZ.out.size));clear hbk)
     go_ret
     exact⟨rfl,hBk.out⟩
   | yes m X Y hx hy hok hr=>
    have RK:=rooms_ok hab.1 hab.2.1 hx hy hok
    rw[hx] at LA
    have LA:=zh LA
    have hLBh:=zh LB
    obtain⟨k1,k2,k3,k4,k5,k6,k7,k8⟩:=RK
    have hrx:=hr.lx
    have hry:=hr.ly
    have hre:=zh hr.eq
    clear LB hG hGo hx hr
    subst k1 k2
    have hnf:=hok.few
    go_upto_region 7 with (go_at_call 10;refine LA.out.mono ?_;rintro e w3 ⟨⟨gw,gm,cm,rfl,hw3,hM3,-⟩,hb3⟩;have hb3:=zh hb3;have hw3:=zh hw3;have hM3:=zh hM3;unfold imCells)
    clear LA
    have hB3:=zh ((hB2.out.trans (hb3.out.mono hB2.out.size)).alloc (Nat.le_trans hB2.out.size hb3.out.size) (.cells #[.slice (some ⟨gw,0,none⟩) X.length X.length,.int .i64 8,.slice (some ⟨gm,0,none⟩) m.n cm] imT))
    have hX3:=zh (Blk.new w3 imT #[.slice (some ⟨gw,0,none⟩) X.length X.length,.int .i64 8,.slice (some ⟨gm,0,none⟩) m.n cm])
    have hw4:=zh (hw3.out.alloc (.cells #[.slice (some ⟨gw,0,none⟩) X.length X.length,.int .i64 8,.slice (some ⟨gm,0,none⟩) m.n cm] imT))
    have hM4:=zh (hM3.out.below ((Below.refl w3.heap.size w3).alloc (Nat.le_refl _) (.cells #[.slice (some ⟨gw,0,none⟩) X.length X.length,.int .i64 8,.slice (some ⟨gm,0,none⟩) m.n cm] imT)))
    have LB:=hLBh.out _ (hb3.out.alloc hb3.out.size (.cells #[.slice (some ⟨gw,0,none⟩) X.length X.length,.int .i64 8,.slice (some ⟨gm,0,none⟩) m.n cm] imT))
    clear hb3 hLBh hB2 hw3 hM3
    generalize w3.alloc _=w4 at *
    generalize w3.heap.size=g3 at *
    rw[hy] at LB
    have LB:=zh LB
    clear hy
    go_upto_region 8 with (go_at_call 10;refine LB.out.mono ?_;rintro e w5 ⟨⟨gw2,gm2,cm2,rfl,hw5,hM5,-⟩,hb5⟩;have hb5:=zh hb5;have hw5:=zh hw5;have hM5:=zh hM5;unfold imCells)
    clear LB
    have hb6:=hb5.out.alloc hb5.out.size (.cells #[.slice (some ⟨gw2,0,none⟩) Y.length Y.length,.int .i64 8,.slice (some ⟨gm2,0,none⟩) m.n cm2] imT)
    have hBZ0:=zh ((hB3.out.trans (hb5.out.mono hB3.out.size)).alloc (Nat.le_trans hB3.out.size hb5.out.size) (.cells #[.slice (some ⟨gw2,0,none⟩) Y.length Y.length,.int .i64 8,.slice (some ⟨gm2,0,none⟩) m.n cm2] imT))
    have hX6:=zh (hX3.out.below hb6 hX3.out.lt)
    have hw6:=zh (hw4.out.below hb6)
    have hM6:=zh (hM4.out.below hb6)
    have hY6:=zh (Blk.new w5 imT #[.slice (some ⟨gw2,0,none⟩) Y.length Y.length,.int .i64 8,.slice (some ⟨gm2,0,none⟩) m.n cm2])
    have hv6:=zh (hw5.out.alloc (.cells #[.slice (some ⟨gw2,0,none⟩) Y.length Y.length,.int .i64 8,.slice (some ⟨gm2,0,none⟩) m.n cm2] imT))
    have hN6:=zh (hM5.out.below ((Below.refl w5.heap.size w5).alloc (Nat.le_refl _) (.cells #[.slice (some ⟨gw2,0,none⟩) Y.length Y.length,.int .i64 8,.slice (some ⟨gm2,0,none⟩) m.n cm2] imT)))
    clear hb5 hB3 hX3 hw4 hM4 hw5 hM5 hb6
    generalize w5.alloc _=w6 at *
    generalize w5.heap.size=g5 at *
    go_upto_region 10 with fail
    obtain⟨zN,hzN⟩:∃ zN:Nat,m.end_=(zN:Int):=⟨m.end_.toNat,by omega⟩
    rw[hzN] at k3 k4 k7 k8
    have hre2:Hid (∀ i,13+m.n≤i→i<zN→X.getD i 0=Y.getD i 0):=zh fun i h1 h2=>hre.out i h1 (by rw[hzN,Int.toNat_natCast];exact h2)
    have hzx:zN<X.length∧zN<Y.length:=by omega
    clear hre hzN hrx hry
    have F0:∀ u:Cls w6,u.w.cell? ⟨g3,0,none⟩=some (.slice (some ⟨gw,0,none⟩) X.length X.length):=Cls.cell (by have:=hX6.out.cell 0;simpa using this) hX6.out.lt
    have F2:∀ u:Cls w6,u.w.cell? ⟨g3,2,none⟩=some (.slice (some ⟨gm,0,none⟩) m.n cm):=Cls.cell (by have:=hX6.out.cell 2;simpa using this) hX6.out.lt
    have G0:∀ u:Cls w6,u.w.cell? ⟨g5,0,none⟩=some (.slice (some ⟨gw2,0,none⟩) Y.length Y.length):=Cls.cell (by have:=hY6.out.cell 0;simpa using this) hY6.out.lt
    have G2:∀ u:Cls w6,u.w.cell? ⟨g5,2,none⟩=some (.slice (some ⟨gm2,0,none⟩) m.n cm2):=Cls.cell (by have:=hY6.out.cell 2;simpa using this) hY6.out.lt
    have F4:∀ u:Cls w6,u.w.cell? ⟨gw,4,none⟩=some (.int .u32 (4*(zN:Int))):=Cls.cell (by rw[hw6.out.cell 4 (by omega),k3]) hw6.out.lt
    have G4:∀ u:Cls w6,u.w.cell? ⟨gw2,4,none⟩=some (.int .u32 (4*(zN:Int))):=Cls.cell (by rw[hv6.out.cell 4 (by omega),k4]) hv6.out.lt
    have F5:∀ u:Cls w6,u.w.cell? ⟨gw,5,none⟩=some (.int .u32 (4*((X.length:Int)-128))):=Cls.cell (by rw[hw6.out.cell 5 (by omega),k5]) hw6.out.lt
    have G5:∀ u:Cls w6,u.w.cell? ⟨gw2,5,none⟩=some (.int .u32 (4*((Y.length:Int)-128))):=Cls.cell (by rw[hv6.out.cell 5 (by omega),k6]) hv6.out.lt
    have v1:IntKind.i64.wrap ((Y.length:Int)-(X.length:Int))=(Y.length:Int)-(X.length:Int):=by rw[IntKind.wrap_i64];omega
    have v2:IntKind.i64.wrap (4*((Y.length:Int)-(X.length:Int)))=4*((Y.length:Int)-(X.length:Int)):=by rw[IntKind.wrap_i64];omega
    have v3:IntKind.u32.wrap (4*((Y.length:Int)-(X.length:Int)))=4*((Y.length:Int)-(X.length:Int)):=by rw[IntKind.wrap_u32];omega
    have v4:IntKind.u32.wrap (4*((Y.length:Int)-128)-4*((X.length:Int)-128))=4*((Y.length:Int)-(X.length:Int)):=by rw[IntKind.wrap_u32];omega
    have n5x:(5:Int)<(X.length:Int):=by omega
    have n5y:(5:Int)<(Y.length:Int):=by omega
    have n4x:(4:Int)<(X.length:Int):=by omega
    have n4y:(4:Int)<(Y.length:Int):=by omega
    refine wp_region_cls (by kernel_rfl) (by kernel_rfl) ?_
    repeat (go_big_quiet_step (fail))
    refine wpQuiet_nil ?_
    intro wq hw0
    have hq:Below w6.heap.size w6 wq:=(by obtain⟨u,rfl⟩:=hw0;exact u.h)
    have hc4:Hid (w6.cell? ⟨gw,4,none⟩=some (.int .u32 (4*(zN:Int)))):=zh (by rw[hw6.out.cell 4 (by omega),k3])
    clear hw0 F0 F2 G0 G2 F4 G4 F5 G5 v1 v2 v3 v4 k3 k4 k5 k6 n5x n5y
    have hqh:=zh hq
    clear hq
    go_wp2_with fail
    go_loopw [16] (fun iv wr=>∃ k:Nat,iv=.int .i64 k∧k≤m.n∧Hid (Below w6.heap.size w6 wr)) (fun iv _=>16-(intOf iv).toNat)
    case atStart=>exact⟨0,rfl,by omega,hqh⟩
    case round=>
     clear hqh
     obtain⟨k,rfl,hk,hbw⟩:=hrel
     have c2:wr.cell? ⟨g3,2,none⟩=some (.slice (some ⟨gm,0,none⟩) m.n cm):=by have:=(hX6.out.below hbw.out hX6.out.lt).cell 2;simpa using this
     by_cases hlt:(k:Int)<(m.n:Int)
     ·have hkm:k<m.n:=by omega
      have hMr:=(hM6.out.below hbw.out).range hkm
      have hNr:=(hN6.out.below hbw.out).range hkm
      have lM:=(hM6.out.below hbw.out).lt
      have lN:=(hN6.out.below hbw.out).lt
      have lX:=(hX6.out.below hbw.out hX6.out.lt).lt
      have lY:=(hY6.out.below hbw.out hY6.out.lt).lt
      have F2:∀ u:Cls wr,u.w.cell? ⟨g3,2,none⟩=some (.slice (some ⟨gm,0,none⟩) m.n cm):=Cls.cell c2 lX
      have G2:∀ u:Cls wr,u.w.cell? ⟨g5,2,none⟩=some (.slice (some ⟨gm2,0,none⟩) m.n cm2):=Cls.cell (by have:=(hY6.out.below hbw.out hY6.out.lt).cell 2;simpa using this) lY
      have FC:∀ u:Cls wr,u.w.cell? ⟨gm,k*6+5,none⟩=some (.int .i64 (m.pl k).code):=Cls.cell (hMr 5 _ rfl) lM
      have GC:∀ u:Cls wr,u.w.cell? ⟨gm2,k*6+5,none⟩=some (.int .i64 (m.pl k).code):=Cls.cell (hNr 5 _ rfl) lN
      have FN:∀ u:Cls wr,u.w.cell? ⟨gm,k*6,none⟩=some (.string (txt (m.ob k).name)):=Cls.cell (hMr 0 _ rfl) lM
      have GN:∀ u:Cls wr,u.w.cell? ⟨gm2,k*6,none⟩=some (.string (txt (m.ob k).name)):=Cls.cell (hNr 0 _ rfl) lN
      clear hMr hNr
      generalize (m.pl k).code=co at *
      generalize txt (m.ob k).name=na at *
      go_upto_region 15 with fail
      refine wp_region_cls (by kernel_rfl) (by kernel_rfl) ?_
      repeat (go_big_quiet_step (fail))
      refine wpQuiet_nil ?_
      intro wq hw0
      have hq:Below wr.heap.size wr wq:=(by obtain⟨u,rfl⟩:=hw0;exact u.h)
      have hq2:=zh (hbw.out.trans (hq.mono hbw.out.size))
      clear hw0 F2 G2 FC GC FN GN hq c2
      go_wp2_with fail
      exact⟨⟨k+1,by go_num,by omega,hq2⟩,by simp[intOf];omega⟩
     ·obtain rfl:k=m.n:=by omega
      have hbh:=hbw
      generalize wr=wb at *
      go_wp2_with fail
      clear c2
      go_loopw [17] (fun iv wr=>∃ k:Nat,iv=.int .i64 k∧13+m.n≤k∧k≤zN∧Hid (Below w6.heap.size w6 wr)) (fun iv _=>70000-(intOf iv).toNat)
      case atStart=>exact⟨13+m.n,by go_num,by omega,by omega,hbh⟩
      case round=>
       clear hbh hbw
       obtain⟨i,rfl,hi1,hi2,hbw⟩:=hrel
       have c0:wr.cell? ⟨g3,0,none⟩=some (.slice (some ⟨gw,0,none⟩) X.length X.length):=by have:=(hX6.out.below hbw.out hX6.out.lt).cell 0;simpa using this
       have d0:wr.cell? ⟨g5,0,none⟩=some (.slice (some ⟨gw2,0,none⟩) Y.length Y.length):=by have:=(hY6.out.below hbw.out hY6.out.lt).cell 0;simpa using this
       have c4:wr.cell? ⟨gw,4,none⟩=some (.int .u32 (4*(zN:Int))):=(hbw.out.cell (p:=⟨gw,4,none⟩) hw6.out.lt).trans hc4.out
       have v1:(4*(zN:Int)).tdiv 4=zN:=by rw[Int.tdiv_eq_ediv_of_nonneg (by omega)];omega
       have v2:4*(zN:Int) / 4=zN:=by omega
       have v3:IntKind.u32.wrap (zN:Int)=zN:=by rw[IntKind.wrap_u32];omega
       have v4:IntKind.i64.wrap (zN:Int)=zN:=by rw[IntKind.wrap_i64];omega
       by_cases hlt3:(i:Int)<(zN:Int)
       ·have hiX:(i:Int)<(X.length:Int):=by omega
        have hiY:(i:Int)<(Y.length:Int):=by omega
        have hxy:=hre2.out i hi1 (by omega)
        have lw:=(hw6.out.below hbw.out).lt
        have lv:=(hv6.out.below hbw.out).lt
        have F0:∀ u:Cls wr,u.w.cell? ⟨g3,0,none⟩=some (.slice (some ⟨gw,0,none⟩) X.length X.length):=Cls.cell c0 (hX6.out.below hbw.out hX6.out.lt).lt
        have G0:∀ u:Cls wr,u.w.cell? ⟨g5,0,none⟩=some (.slice (some ⟨gw2,0,none⟩) Y.length Y.length):=Cls.cell d0 (hY6.out.below hbw.out hY6.out.lt).lt
        have FX:∀ u:Cls wr,u.w.cell? ⟨gw,i,none⟩=some (.int .u32 (X.getD i 0)):=Cls.cell ((hw6.out.below hbw.out).cell i (by omega)) lw
        have GY:∀ u:Cls wr,u.w.cell? ⟨gw2,i,none⟩=some (.int .u32 (X.getD i 0)):=Cls.cell (by rw[hxy];exact(hv6.out.below hbw.out).cell i (by omega)) lv
        generalize X.getD i 0=xi at *
        clear hxy
        go_upto_region 20 with fail
        refine wp_region_cls (by kernel_rfl) (by kernel_rfl) ?_
        repeat (go_big_quiet_step (fail))
        refine wpQuiet_nil ?_
        intro wq hw0
        have hq:Below wr.heap.size wr wq:=(by obtain⟨u,rfl⟩:=hw0;exact u.h)
        have hq2:=zh (hbw.out.trans (hq.mono hbw.out.size))
        clear hw0 F0 G0 FX GY hq c0 d0 c4
        go_wp2_with fail
        exact⟨⟨i+1,by go_num,by omega,by omega,hq2⟩,by simp[intOf];omega⟩
       ·have hBZ:=zh (hBZ0.out.trans (hbw.out.mono hBZ0.out.size))
        go_wp2_with (go_at_call 9;refine(WK _).out.mono ?_;rintro e wk ⟨rfl,hbk⟩;have hBk:=zh (hBZ.out.trans (hbk.mono hBZ.out.size));clear hbk)
        go_ret
        exact⟨rfl,hBk.out⟩
theorem law26_rooms_text (l:List (BA×BA)) (vs:Value) (s:BA) (r0 r1:Int) (p0:0≤r0) (p1:r0≤65535) (q0:0≤r1) (q1:r1≤65535) (w:World) (hv:FRow w vs l) (hsz:∀ x∈l,x.1.size≤9223372036854775807∧x.2.size≤9223372036854775807) :
  Calls Tryz.prog 4 #[vs,.string s,.agg #[.int .u16 r0,.int .u16 r1]] w fun e w'=>e=.returned (.bool true)∧Below w.heap.size w w':=by
 have:=law26_rooms l vs s.data.toList r0 r1 p0 p1 q0 q1 w hv hsz
 rw[txt_of] at this
 exact this
end Go.Proofs.YtceflhffilldeaaGreat
