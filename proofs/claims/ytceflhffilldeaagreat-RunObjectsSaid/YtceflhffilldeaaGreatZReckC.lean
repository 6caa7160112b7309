/-
  Joined: ZReckC.
-/
import Derived.Test.YtceflhffilldeaaGreatZMoves
set_option linter.unusedVariables false
set_option linter.unusedSimpArgs false
set_option maxRecDepth 100000
set_option maxHeartbeats 16000000
namespace Go.Proofs.YtceflhffilldeaaGreat
open Go.RowKit Bw
theorem cpu_reckons_1t (S:Nat→Prop) (A B C:Nat) (op im:Int) (u:Bool) (p mp ap:Nat) (ov:Value) (m:Mc) (w:World) (h:Mach w p mp ap ov m) (hA:A<16) (hB:B<16) (hi0:0≤im) (hi1:im<65536) (hok:Alu.okOp op u=true) (hno:op≠0∨u=false) (hF:Free S p ap ov) (hS:∀ k,S k→k<w.heap.size) :
  Calls Tryz.prog 100 #[.pointer (some ⟨p,0,none⟩),.agg #[.int .i64 1,.bool u,.bool true,.int .i64 A,.int .i64 B,.int .i64 0,.int .i64 op,.int .i64 im]] w fun e w'=>
   e=.returned (.tuple #[])∧Stored S p mp ap { m with r:=m.r.set A (Alu.R op u (m.r.getD B 0) (im+4294901760) m.h m.f),h:=Alu.H op u (m.r.getD B 0) (im+4294901760) m.h,f:=Alu.F op u (m.r.getD B 0) (im+4294901760) m.h m.f } w w':=by
 have x8:=xcells w 1 im u true A B 0 op 128
 simp only at x8
 obtain⟨x0,x1,x2,x3,x4,x5,x6,x7⟩:=x8
 have h1:=zh (h.alloc (.cells #[.int .i64 1,.bool u,.bool true,.int .i64 A,.int .i64 B,.int .i64 0,.int .i64 op,.int .i64 im] 128))
 have K1:Kept S w (w.alloc (.cells #[.int .i64 1,.bool u,.bool true,.int .i64 A,.int .i64 B,.int .i64 0,.int .i64 op,.int .i64 im] 128)):=(Kept.refl S w).alloc hS _
 have z1:w.heap.size<(w.alloc (.cells #[.int .i64 1,.bool u,.bool true,.int .i64 A,.int .i64 B,.int .i64 0,.int .i64 op,.int .i64 im] 128)).heap.size:=by simp
 have hp:p<w.heap.size:=h.blk.lt
 have hA':(A:Int)<16:=by omega
 have hB':(B:Int)<16:=by omega
 have hb1:=h.ok.reg (B:Int)
 have hh1:=h.ok.h
 simp only[Mc.reg,Int.toNat_natCast] at hb1
 have w16:IntKind.u16.wrap im=im:=by simp[IntKind.wrap,IntKind.bits,IntKind.signed];omega
 have w32:IntKind.u32.wrap im=im:=by rw[IntKind.wrap_u32];omega
 obtain⟨nv,nvE⟩:∃ nv,im+4294901760=nv:=⟨_,rfl⟩
 have hn1:0≤nv∧nv<4294967296:=by omega
 have wor:bits .or .u32 im 4294901760=nv:=by
  have e:bits .or .u32 im 4294901760=bits .or .u32 4294901760 im:=by simp[bits,BitVec.or_comm]
  rw[e,or_add 4294901760 im 16 (by omega) (by omega) (by decide) (by omega) (by omega) (by omega)];omega
 have nvE':=zh nvE
 clear nvE
 have nvE:=nvE'
 clear nvE' 
 obtain⟨b0,eB⟩:∃ b0,m.r.getD B 0=b0:=⟨_,rfl⟩
 rw[eB] at hb1
 have eB':=zh eB
 clear eB
 have DO:=fun W=>zh (alu_do_yes op u b0 nv m.h m.f W hb1.1 hb1.2 hn1.1 hn1.2 hh1.1 hh1.2 hok)
 simp only[Fl.val,Fl.cells] at DO
 have RB:=Alu.R_bd op u b0 nv m.h m.f hb1.1 hb1.2 hn1.1 hn1.2 hh1.1 hh1.2
 have HB:=Alu.H_bd op u b0 nv m.h hb1.1 hb1.2 hh1.1 hh1.2
 rw[eB'.out,nvE.out]
 generalize Alu.R op u b0 nv m.h m.f=rr at *
 generalize Alu.H op u b0 nv m.h=rh at *
 generalize Alu.F op u b0 nv m.h m.f=rf at *
 have RB':=zh RB
 have HB':=zh HB
 have K1:=zh K1
 have hF:=zh hF
 have hS:=zh hS
 clear hok hb1 hn1 hh1 h RB HB
 go_enter Tryz.func100,Tryz.ntmps100
 go_wp2_with fail
 generalize hW:w.alloc (.cells #[.int .i64 1,.bool u,.bool true,.int .i64 A,.int .i64 B,.int .i64 0,.int .i64 op,.int .i64 im] 128)=W at *
 clear hW
 have r0:=h1.out.reg 0 (by omega)
 obtain⟨c0,c0E⟩:∃ c0,m.r.getD 0 0=c0:=⟨_,rfl⟩
 rw[c0E] at r0
 clear c0E
 (refine region_drew 7 (by kernel_rfl) (by kernel_rfl) ?_;simp only[List.take_succ_cons,List.take_zero,List.drop_succ_cons,List.drop_zero];(repeat still_step))
 refine wpStill_nil ?_
 generalize hW':W.drew=W' at *
 have h2:Hid (Mach W' p mp ap ov m):=zh (hW' ▸ h1.out.drew)
 have K2:Hid (Kept S w W'):=zh (hW' ▸ K1.out.drew)
 have z2:w.heap.size<W'.heap.size:=hW' ▸ z1
 have y0:W'.cell? ⟨w.heap.size,0,none⟩=some (.int .i64 1):=hW' ▸ x0
 have y1:W'.cell? ⟨w.heap.size,1,none⟩=some (.bool u):=hW' ▸ x1
 have y2:W'.cell? ⟨w.heap.size,2,none⟩=some (.bool true):=hW' ▸ x2
 have y3:W'.cell? ⟨w.heap.size,3,none⟩=some (.int .i64 A):=hW' ▸ x3
 have y4:W'.cell? ⟨w.heap.size,4,none⟩=some (.int .i64 B):=hW' ▸ x4
 have y6:W'.cell? ⟨w.heap.size,6,none⟩=some (.int .i64 op):=hW' ▸ x6
 have y7:W'.cell? ⟨w.heap.size,7,none⟩=some (.int .i64 im):=hW' ▸ x7
 clear hW' x0 x1 x2 x3 x4 x5 x6 x7 h1 K1 z1
 have q16:=h2.out.h_
 have q17:=h2.out.fn
 have q18:=h2.out.fz
 have q19:=h2.out.fc
 have q20:=h2.out.fv
 have rB:=h2.out.reg B hB
 rw[eB'.out] at rB
 have hpN:p<W'.heap.size:=h2.out.blk.lt
 have RK:Reck W'.heap.size w.heap.size p A B op b0 m.h u m.f.n m.f.z m.f.c m.f.v W' W':=⟨Below.refl _ _,Nat.le_refl _,y3,y6,y1,y4,rB,q16,q17,q18,q19,q20⟩
 have RK:=zh RK
 by_cases hop:op=0
 ·subst hop
  have hu:=hno.resolve_left (fun h=>h rfl)
  subst hu
  go_wp2_with fail
  have RK1:Reck W'.heap.size w.heap.size p A B 0 b0 m.h false m.f.n m.f.z m.f.c m.f.v W' W'.drew:=RK.out.on z2 hpN ((Below.refl _ _).drew)
  go_region_held3 (fun w'=>Reck W'.heap.size w.heap.size p A B 0 b0 m.h false m.f.n m.f.z m.f.c m.f.v W' w'∧w'.cell? ⟨w.heap.size,6,none⟩=some (.int .i64 0)∧w'.cell? ⟨w.heap.size,1,none⟩=some (.bool false)∧w'.cell? ⟨w.heap.size,4,none⟩=some (.int .i64 B)∧w'.cell? ⟨p,B,none⟩=some (.int .u32 b0)∧w'.cell? ⟨p,16,none⟩=some (.int .u32 m.h)∧w'.cell? ⟨p,17,none⟩=some (.bool m.f.n)∧w'.cell? ⟨p,18,none⟩=some (.bool m.f.z)∧w'.cell? ⟨p,19,none⟩=some (.bool m.f.c)∧w'.cell? ⟨p,20,none⟩=some (.bool m.f.v))
   (first | exact Reck.all RK1 | exact Reck.all (Reck.on (And.left (by assumption)) z2 hpN ((by assumption:Below _ _ _).mono (Reck.n (And.left (by assumption))))) | exact Reck.all (Reck.alloc (And.left (by assumption)) z2 hpN _) | exact Reck.all (Reck.re (And.left (by assumption)) z2 hpN hb3.size _) | exact Reck.all (Reck.on (And.left (by assumption)) z2 hpN (below4 _ (Nat.le_refl _) _ _ _ _)))
   (first | (go_at_call 132;refine(DO _).out.mono ?_;rintro e w3 ⟨rfl,hb3⟩;try (have Z:Blk w3 W'.heap.size 144 #[.bool false,.bool false,.bool false,.bool false]:=(Blk.new W'.drew 144 #[.bool false,.bool false,.bool false,.bool false]).below hb3 (by simp);have zc0:=Z.cell 0;have zc1:=Z.cell 1;have zc2:=Z.cell 2;have zc3:=Z.cell 3;have zf0:=Z.frozen 0;have zf1:=Z.frozen 1;have zf2:=Z.frozen 2;have zf3:=Z.frozen 3;simp only[gAr,gC0,gCs] at zc0 zc1 zc2 zc3;have Z:=zh Z)))
  ·have hR:Reck W'.heap.size w.heap.size p A B 0 b0 m.h false m.f.n m.f.z m.f.c m.f.v W' (w3.alloc (.cells #[.bool rf.n,.bool rf.z,.bool rf.c,.bool rf.v] 144)):=And.left (by assumption)
   have Z4:=Blk.new w3 144 #[.bool rf.n,.bool rf.z,.bool rf.c,.bool rf.v]
   have h4:=zh (h2.out.below hR.b)
   have K4:=zh (K2.out.below hR.b (fun k hk=>Nat.lt_of_lt_of_le (hS.out k hk) K2.out.size))
   have g3:=hR.g3
   have hRs:=zh hR.b.size
   clear hR
   generalize hWW:w3.alloc (.cells #[.bool rf.n,.bool rf.z,.bool rf.c,.bool rf.v] 144)=W4 at *
   have zc0:=Z4.cell 0
   have zc1:=Z4.cell 1
   have zc2:=Z4.cell 2
   have zc3:=Z4.cell 3
   simp only[gAr,gC0,gCs] at zc0 zc1 zc2 zc3
   have T4:Rtl w.heap.size w3.heap.size A rf.n rf.z rf.c rf.v W4:=⟨g3,zc0,zc1,zc2,zc3⟩
   have nx:p≠w.heap.size:=Nat.ne_of_lt hp
   have n7:p≠w3.heap.size:=h4.out.blk.ne_ Z4 (by decide)
   have T1:=T4.set_ nx n7 A (.int .u32 rr)
   have T2:=T1.set_ nx n7 16 (.int .u32 rh)
   have T6:=(((T2.set_ nx n7 17 (.bool rf.n)).set_ nx n7 18 (.bool rf.z)).set_ nx n7 19 (.bool rf.c)).set_ nx n7 20 (.bool rf.v)
   have T4:=T4.drew
   have T1:=T1.drew
   have T2:=T2.drew
   have T6:=T6.drew
   have Z4:=zh Z4
   have cA:=h4.out.reg A hA
   have cH:=h4.out.h_
   have c17:=h4.out.fn
   have c18:=h4.out.fz
   have c19:=h4.out.fc
   have c20:=h4.out.fv
   have fA:=h4.out.froz A
   have fH:=h4.out.froz 16
   have f17:=h4.out.froz 17
   have f18:=h4.out.froz 18
   have f19:=h4.out.froz 19
   have f20:=h4.out.froz 20
   have a16:¬ A=16:=by omega
   have a17:¬ A=17:=by omega
   have a18:¬ A=18:=by omega
   have a19:¬ A=19:=by omega
   have a20:¬ A=20:=by omega
   clear DO RK y0 y1 y2 y3 y4 y6 y7 q16 q17 q18 q19 q20 rB zc0 zc1 zc2 zc3 g3
   go_wp2_with fail
   go_region_held3 (fun w'=>Rtl w.heap.size w3.heap.size A rf.n rf.z rf.c rf.v w'∧w'.cell? ⟨w.heap.size,3,none⟩=some (.int .i64 A)∧w'.cell? ⟨w3.heap.size,0,none⟩=some (.bool rf.n)∧w'.cell? ⟨w3.heap.size,1,none⟩=some (.bool rf.z)∧w'.cell? ⟨w3.heap.size,2,none⟩=some (.bool rf.c)∧w'.cell? ⟨w3.heap.size,3,none⟩=some (.bool rf.v))
    (first | with_reducible exact Rtl.all T4 | with_reducible exact Rtl.all T1 | with_reducible exact Rtl.all T2 | with_reducible exact Rtl.all T6) (fail)
   go_end0
   have KF:=((((((K4.out.then_ hF.out.1 A (.int .u32 rr)).then_ hF.out.1 16 (.int .u32 rh)).then_ hF.out.1 17 (.bool rf.n)).then_ hF.out.1 18 (.bool rf.z)).then_ hF.out.1 19 (.bool rf.c)).then_ hF.out.1 20 (.bool rf.v)).drew
   have MF:=((((((h4.out.set_r A rr hA RB'.out).set_h rh HB'.out).set_n rf.n).set_z rf.z).set_c rf.c).set_v rf.v).drew
   exact⟨rfl,ov,MF,KF,hF.out,fun k hk=>Nat.lt_of_lt_of_le (hS.out k hk) KF.size⟩
  ·have hR:Reck W'.heap.size w.heap.size p A B 0 b0 m.h false m.f.n m.f.z m.f.c m.f.v W' ((((w3.setCell ⟨W'.heap.size,0,none⟩ (.bool rf.n)).setCell ⟨W'.heap.size,1,none⟩ (.bool rf.z)).setCell ⟨W'.heap.size,2,none⟩ (.bool rf.c)).setCell ⟨W'.heap.size,3,none⟩ (.bool rf.v)):=And.left (by assumption)
   have Z4:=blk4 Z.out (.bool rf.n) (.bool rf.z) (.bool rf.c) (.bool rf.v)
   have h4:=zh (h2.out.below hR.b)
   have K4:=zh (K2.out.below hR.b (fun k hk=>Nat.lt_of_lt_of_le (hS.out k hk) K2.out.size))
   have g3:=hR.g3
   have hRs:=zh hR.b.size
   clear hR
   generalize hWW:(((w3.setCell ⟨W'.heap.size,0,none⟩ (.bool rf.n)).setCell ⟨W'.heap.size,1,none⟩ (.bool rf.z)).setCell ⟨W'.heap.size,2,none⟩ (.bool rf.c)).setCell ⟨W'.heap.size,3,none⟩ (.bool rf.v)=W4 at *
   have zc0:=Z4.cell 0
   have zc1:=Z4.cell 1
   have zc2:=Z4.cell 2
   have zc3:=Z4.cell 3
   simp only[gAr,gC0,gCs] at zc0 zc1 zc2 zc3
   have T4:Rtl w.heap.size W'.heap.size A rf.n rf.z rf.c rf.v W4:=⟨g3,zc0,zc1,zc2,zc3⟩
   have nx:p≠w.heap.size:=Nat.ne_of_lt hp
   have n7:p≠W'.heap.size:=h4.out.blk.ne_ Z4 (by decide)
   have T1:=T4.set_ nx n7 A (.int .u32 rr)
   have T2:=T1.set_ nx n7 16 (.int .u32 rh)
   have T6:=(((T2.set_ nx n7 17 (.bool rf.n)).set_ nx n7 18 (.bool rf.z)).set_ nx n7 19 (.bool rf.c)).set_ nx n7 20 (.bool rf.v)
   have T4:=T4.drew
   have T1:=T1.drew
   have T2:=T2.drew
   have T6:=T6.drew
   have Z4:=zh Z4
   have cA:=h4.out.reg A hA
   have cH:=h4.out.h_
   have c17:=h4.out.fn
   have c18:=h4.out.fz
   have c19:=h4.out.fc
   have c20:=h4.out.fv
   have fA:=h4.out.froz A
   have fH:=h4.out.froz 16
   have f17:=h4.out.froz 17
   have f18:=h4.out.froz 18
   have f19:=h4.out.froz 19
   have f20:=h4.out.froz 20
   have a16:¬ A=16:=by omega
   have a17:¬ A=17:=by omega
   have a18:¬ A=18:=by omega
   have a19:¬ A=19:=by omega
   have a20:¬ A=20:=by omega
   clear DO RK y0 y1 y2 y3 y4 y6 y7 q16 q17 q18 q19 q20 rB zc0 zc1 zc2 zc3 g3
   go_wp2_with fail
   go_region_held3 (fun w'=>Rtl w.heap.size W'.heap.size A rf.n rf.z rf.c rf.v w'∧w'.cell? ⟨w.heap.size,3,none⟩=some (.int .i64 A)∧w'.cell? ⟨W'.heap.size,0,none⟩=some (.bool rf.n)∧w'.cell? ⟨W'.heap.size,1,none⟩=some (.bool rf.z)∧w'.cell? ⟨W'.heap.size,2,none⟩=some (.bool rf.c)∧w'.cell? ⟨W'.heap.size,3,none⟩=some (.bool rf.v))
    (first | with_reducible exact Rtl.all T4 | with_reducible exact Rtl.all T1 | with_reducible exact Rtl.all T2 | with_reducible exact Rtl.all T6) (fail)
   go_end0
   have KF:=((((((K4.out.then_ hF.out.1 A (.int .u32 rr)).then_ hF.out.1 16 (.int .u32 rh)).then_ hF.out.1 17 (.bool rf.n)).then_ hF.out.1 18 (.bool rf.z)).then_ hF.out.1 19 (.bool rf.c)).then_ hF.out.1 20 (.bool rf.v)).drew
   have MF:=((((((h4.out.set_r A rr hA RB'.out).set_h rh HB'.out).set_n rf.n).set_z rf.z).set_c rf.c).set_v rf.v).drew
   exact⟨rfl,ov,MF,KF,hF.out,fun k hk=>Nat.lt_of_lt_of_le (hS.out k hk) KF.size⟩
 ·clear hno
  go_wp2_with fail
  have RK1:Reck W'.heap.size w.heap.size p A B op b0 m.h u m.f.n m.f.z m.f.c m.f.v W' W'.drew:=RK.out.on z2 hpN ((Below.refl _ _).drew)
  go_region_held3 (fun w'=>Reck W'.heap.size w.heap.size p A B op b0 m.h u m.f.n m.f.z m.f.c m.f.v W' w'∧w'.cell? ⟨w.heap.size,6,none⟩=some (.int .i64 op)∧w'.cell? ⟨w.heap.size,1,none⟩=some (.bool u)∧w'.cell? ⟨w.heap.size,4,none⟩=some (.int .i64 B)∧w'.cell? ⟨p,B,none⟩=some (.int .u32 b0)∧w'.cell? ⟨p,16,none⟩=some (.int .u32 m.h)∧w'.cell? ⟨p,17,none⟩=some (.bool m.f.n)∧w'.cell? ⟨p,18,none⟩=some (.bool m.f.z)∧w'.cell? ⟨p,19,none⟩=some (.bool m.f.c)∧w'.cell? ⟨p,20,none⟩=some (.bool m.f.v))
   (first | exact Reck.all RK1 | exact Reck.all (Reck.on (And.left (by assumption)) z2 hpN ((by assumption:Below _ _ _).mono (Reck.n (And.left (by assumption))))) | exact Reck.all (Reck.alloc (And.left (by assumption)) z2 hpN _) | exact Reck.all (Reck.re (And.left (by assumption)) z2 hpN hb3.size _) | exact Reck.all (Reck.on (And.left (by assumption)) z2 hpN (below4 _ (Nat.le_refl _) _ _ _ _)))
   (first | (go_at_call 132;refine(DO _).out.mono ?_;rintro e w3 ⟨rfl,hb3⟩;try (have Z:Blk w3 W'.heap.size 144 #[.bool false,.bool false,.bool false,.bool false]:=(Blk.new W'.drew 144 #[.bool false,.bool false,.bool false,.bool false]).below hb3 (by simp);have zc0:=Z.cell 0;have zc1:=Z.cell 1;have zc2:=Z.cell 2;have zc3:=Z.cell 3;have zf0:=Z.frozen 0;have zf1:=Z.frozen 1;have zf2:=Z.frozen 2;have zf3:=Z.frozen 3;simp only[gAr,gC0,gCs] at zc0 zc1 zc2 zc3;have Z:=zh Z)))
  ·have hR:Reck W'.heap.size w.heap.size p A B op b0 m.h u m.f.n m.f.z m.f.c m.f.v W' (w3.alloc (.cells #[.bool rf.n,.bool rf.z,.bool rf.c,.bool rf.v] 144)):=And.left (by assumption)
   have Z4:=Blk.new w3 144 #[.bool rf.n,.bool rf.z,.bool rf.c,.bool rf.v]
   have h4:=zh (h2.out.below hR.b)
   have K4:=zh (K2.out.below hR.b (fun k hk=>Nat.lt_of_lt_of_le (hS.out k hk) K2.out.size))
   have g3:=hR.g3
   have hRs:=zh hR.b.size
   clear hR
   generalize hWW:w3.alloc (.cells #[.bool rf.n,.bool rf.z,.bool rf.c,.bool rf.v] 144)=W4 at *
   have zc0:=Z4.cell 0
   have zc1:=Z4.cell 1
   have zc2:=Z4.cell 2
   have zc3:=Z4.cell 3
   simp only[gAr,gC0,gCs] at zc0 zc1 zc2 zc3
   have T4:Rtl w.heap.size w3.heap.size A rf.n rf.z rf.c rf.v W4:=⟨g3,zc0,zc1,zc2,zc3⟩
   have nx:p≠w.heap.size:=Nat.ne_of_lt hp
   have n7:p≠w3.heap.size:=h4.out.blk.ne_ Z4 (by decide)
   have T1:=T4.set_ nx n7 A (.int .u32 rr)
   have T2:=T1.set_ nx n7 16 (.int .u32 rh)
   have T6:=(((T2.set_ nx n7 17 (.bool rf.n)).set_ nx n7 18 (.bool rf.z)).set_ nx n7 19 (.bool rf.c)).set_ nx n7 20 (.bool rf.v)
   have T4:=T4.drew
   have T1:=T1.drew
   have T2:=T2.drew
   have T6:=T6.drew
   have Z4:=zh Z4
   have cA:=h4.out.reg A hA
   have cH:=h4.out.h_
   have c17:=h4.out.fn
   have c18:=h4.out.fz
   have c19:=h4.out.fc
   have c20:=h4.out.fv
   have fA:=h4.out.froz A
   have fH:=h4.out.froz 16
   have f17:=h4.out.froz 17
   have f18:=h4.out.froz 18
   have f19:=h4.out.froz 19
   have f20:=h4.out.froz 20
   have a16:¬ A=16:=by omega
   have a17:¬ A=17:=by omega
   have a18:¬ A=18:=by omega
   have a19:¬ A=19:=by omega
   have a20:¬ A=20:=by omega
   clear DO RK y0 y1 y2 y3 y4 y6 y7 q16 q17 q18 q19 q20 rB zc0 zc1 zc2 zc3 g3
   go_wp2_with fail
   go_region_held3 (fun w'=>Rtl w.heap.size w3.heap.size A rf.n rf.z rf.c rf.v w'∧w'.cell? ⟨w.heap.size,3,none⟩=some (.int .i64 A)∧w'.cell? ⟨w3.heap.size,0,none⟩=some (.bool rf.n)∧w'.cell? ⟨w3.heap.size,1,none⟩=some (.bool rf.z)∧w'.cell? ⟨w3.heap.size,2,none⟩=some (.bool rf.c)∧w'.cell? ⟨w3.heap.size,3,none⟩=some (.bool rf.v))
    (first | with_reducible exact Rtl.all T4 | with_reducible exact Rtl.all T1 | with_reducible exact Rtl.all T2 | with_reducible exact Rtl.all T6) (fail)
   go_end0
   have KF:=((((((K4.out.then_ hF.out.1 A (.int .u32 rr)).then_ hF.out.1 16 (.int .u32 rh)).then_ hF.out.1 17 (.bool rf.n)).then_ hF.out.1 18 (.bool rf.z)).then_ hF.out.1 19 (.bool rf.c)).then_ hF.out.1 20 (.bool rf.v)).drew
   have MF:=((((((h4.out.set_r A rr hA RB'.out).set_h rh HB'.out).set_n rf.n).set_z rf.z).set_c rf.c).set_v rf.v).drew
   exact⟨rfl,ov,MF,KF,hF.out,fun k hk=>Nat.lt_of_lt_of_le (hS.out k hk) KF.size⟩
  ·have hR:Reck W'.heap.size w.heap.size p A B op b0 m.h u m.f.n m.f.z m.f.c m.f.v W' ((((w3.setCell ⟨W'.heap.size,0,none⟩ (.bool rf.n)).setCell ⟨W'.heap.size,1,none⟩ (.bool rf.z)).setCell ⟨W'.heap.size,2,none⟩ (.bool rf.c)).setCell ⟨W'.heap.size,3,none⟩ (.bool rf.v)):=And.left (by assumption)
   have Z4:=blk4 Z.out (.bool rf.n) (.bool rf.z) (.bool rf.c) (.bool rf.v)
   have h4:=zh (h2.out.below hR.b)
   have K4:=zh (K2.out.below hR.b (fun k hk=>Nat.lt_of_lt_of_le (hS.out k hk) K2.out.size))
   have g3:=hR.g3
   have hRs:=zh hR.b.size
   clear hR
   generalize hWW:(((w3.setCell ⟨W'.heap.size,0,none⟩ (.bool rf.n)).setCell ⟨W'.heap.size,1,none⟩ (.bool rf.z)).setCell ⟨W'.heap.size,2,none⟩ (.bool rf.c)).setCell ⟨W'.heap.size,3,none⟩ (.bool rf.v)=W4 at *
   have zc0:=Z4.cell 0
   have zc1:=Z4.cell 1
   have zc2:=Z4.cell 2
   have zc3:=Z4.cell 3
   simp only[gAr,gC0,gCs] at zc0 zc1 zc2 zc3
   have T4:Rtl w.heap.size W'.heap.size A rf.n rf.z rf.c rf.v W4:=⟨g3,zc0,zc1,zc2,zc3⟩
   have nx:p≠w.heap.size:=Nat.ne_of_lt hp
   have n7:p≠W'.heap.size:=h4.out.blk.ne_ Z4 (by decide)
   have T1:=T4.set_ nx n7 A (.int .u32 rr)
   have T2:=T1.set_ nx n7 16 (.int .u32 rh)
   have T6:=(((T2.set_ nx n7 17 (.bool rf.n)).set_ nx n7 18 (.bool rf.z)).set_ nx n7 19 (.bool rf.c)).set_ nx n7 20 (.bool rf.v)
   have T4:=T4.drew
   have T1:=T1.drew
   have T2:=T2.drew
   have T6:=T6.drew
   have Z4:=zh Z4
   have cA:=h4.out.reg A hA
   have cH:=h4.out.h_
   have c17:=h4.out.fn
   have c18:=h4.out.fz
   have c19:=h4.out.fc
   have c20:=h4.out.fv
   have fA:=h4.out.froz A
   have fH:=h4.out.froz 16
   have f17:=h4.out.froz 17
   have f18:=h4.out.froz 18
   have f19:=h4.out.froz 19
   have f20:=h4.out.froz 20
   have a16:¬ A=16:=by omega
   have a17:¬ A=17:=by omega
   have a18:¬ A=18:=by omega
   have a19:¬ A=19:=by omega
   have a20:¬ A=20:=by omega
   clear DO RK y0 y1 y2 y3 y4 y6 y7 q16 q17 q18 q19 q20 rB zc0 zc1 zc2 zc3 g3
   go_wp2_with fail
   go_region_held3 (fun w'=>Rtl w.heap.size W'.heap.size A rf.n rf.z rf.c rf.v w'∧w'.cell? ⟨w.heap.size,3,none⟩=some (.int .i64 A)∧w'.cell? ⟨W'.heap.size,0,none⟩=some (.bool rf.n)∧w'.cell? ⟨W'.heap.size,1,none⟩=some (.bool rf.z)∧w'.cell? ⟨W'.heap.size,2,none⟩=some (.bool rf.c)∧w'.cell? ⟨W'.heap.size,3,none⟩=some (.bool rf.v))
    (first | with_reducible exact Rtl.all T4 | with_reducible exact Rtl.all T1 | with_reducible exact Rtl.all T2 | with_reducible exact Rtl.all T6) (fail)
   go_end0
   have KF:=((((((K4.out.then_ hF.out.1 A (.int .u32 rr)).then_ hF.out.1 16 (.int .u32 rh)).then_ hF.out.1 17 (.bool rf.n)).then_ hF.out.1 18 (.bool rf.z)).then_ hF.out.1 19 (.bool rf.c)).then_ hF.out.1 20 (.bool rf.v)).drew
   have MF:=((((((h4.out.set_r A rr hA RB'.out).set_h rh HB'.out).set_n rf.n).set_z rf.z).set_c rf.c).set_v rf.v).drew
   exact⟨rfl,ov,MF,KF,hF.out,fun k hk=>Nat.lt_of_lt_of_le (hS.out k hk) KF.size⟩
end Go.Proofs.YtceflhffilldeaaGreat
