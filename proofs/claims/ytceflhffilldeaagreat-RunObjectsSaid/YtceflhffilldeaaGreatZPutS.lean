/-
  Joined: ZPutS.
-/
import Derived.Test.YtceflhffilldeaaGreatZRefA
set_option linter.unusedVariables false
set_option linter.unusedSimpArgs false
set_option maxRecDepth 100000
set_option maxHeartbeats 16000000
namespace Go.Proofs.YtceflhffilldeaaGreat
open Go.RowKit Go.Maps Go.WideMaps
theorem ref07_put_some (p i g0 k0:Nat) (u:Value) (N T:List ByteArray) (s t:ByteArray) (w:World) (h:RefIs w p (.slice (some ⟨g0,0,none⟩) N.length k0) u N T) (hi:i≤N.length) (hck:N.length≤k0) (hsz:s.size≤9223372036854775807) (hok:nameOk s=true) (ht:(t.size:Int)≤131072) (hN:N.length≠64) (hlt:N.length<1000000) (hpl:plc s N=(i,false)) :
  Calls Tryz.prog 26 #[.pointer (some ⟨p,0,none⟩),.string s,.string t] w fun e w'=>e=.returned (.int .i64 0)∧∃ v u,RefIs w' p v u (N.take i++[s]++N.drop i) (T.take i++[t]++T.drop i)∧(∀ k,v.ownBlock=some k→w.heap.size≤k)∧(∀ k,u.ownBlock=some k→w.heap.size≤k)∧Kept (fun k=>k<w.heap.size∧k≠p) w w':=by
 have PL:=ref_place p u (.slice (some ⟨g0,0,none⟩) N.length k0) N s w h.blk (srow_of_own h.small h.names)
 rw[hpl] at PL
 have PL':=zh PL
 have NM':=fun W=>zh (ref07_name s W hsz)
 rw[hok] at NM'
 obtain⟨blk,names,texts,len,small,np,tp,nt⟩:=h
 have hiT:i≤T.length:=by omega
 have smallT:T.length≤1000000:=by omega
 have utl:Hid (∀ k,u.ownBlock=some k→k<w.heap.size∧k≠p):=zh (fun k hk=>⟨(texts.lt k hk).2,tp k hk⟩)
 have len':=zh len
 have hp0:=zh blk
 have ho0:=zh names
 have ht0:=zh texts
 obtain⟨M,hM0⟩:∃ M,N.length+1=M:=⟨_,rfl⟩
 obtain⟨m1,hm0⟩:∃ m,i+1=m:=⟨_,rfl⟩
 have hM:=zh hM0
 have hm1:=zh hm0
 have hM1:Hid (M≤1000000):=zh (by omega)
 have hib1:Hid (m1≤1000000):=zh (by omega)
 have HL:Hid ((N.take i++[s]++N.drop i).length=(T.take i++[t]++T.drop i).length):=zh (by simp only[List.length_append,List.length_take,List.length_drop];simp;omega)
 have HS:Hid ((N.take i++[s]++N.drop i).length≤1000000):=zh (by simp only[List.length_append,List.length_take,List.length_drop];simp;omega)
 have h64:((N.length:Int)==64)=false:=by rw[beq_eq_false_iff_ne];omega
 clear blk names len PL np tp nt texts hpl hok hM0 hm0 hN
 have C9:=hp0.out.cell 0
 simp only[gAr,gC0,gCs] at C9
 go_enter Tryz.func26,Tryz.ntmps26
 go_wp2_with fail
 refine(NM' _).out.mono ?_
 rintro e w1 ⟨rfl,rfl⟩
 go_wp2_with fail
 refine PL'.out.mono ?_
 rintro e w1 ⟨rfl,rfl⟩
 go_upto_region 13 with fail
 go_cut [] from 37 to 57 (fun wx=>∃ g' c':Nat,Blk wx p 76 #[(.slice (some ⟨g',0,none⟩) M c'),u]∧wx.ownsRow w.heap.size 9 1 (.slice (some ⟨g',0,none⟩) M c') M ((N.take i++[s]++N.drop i).map Value.string)∧Kept (fun k=>k<w.heap.size∧k≠p) w wx)
 case first=>
  have C0:=hp0.out.cell 0
  have F0:=hp0.out.frozen 0
  simp only[gAr,gC0,gCs] at C0
  have hpl0:=hp0.out.lt
  have hib:Hid (i≤1000000):=zh (by omega)
  have ltk:Hid ((N.take i).length=i):=zh (by rw[List.length_take];omega)
  have ldr:Hid ((N.drop i).length=N.length-i):=zh (by rw[List.length_drop])
  have hm2:Hid (m1+(N.length-i)=M):=zh (by have h1:=hm1.out;have h2:=hM.out;have h3:=len'.out;omega)
  have b1:(i:Int)≤k0:=by omega
  have b2:(i:Int)≤N.length:=by omega
  by_cases hc:k0=i
  ·obtain rfl:k0=i:=hc
   have SR1:Hid (SRow w (.slice (some ⟨g0,0,none⟩) k0 k0) (N.take k0)):=zh (srow_take ho0.out k0 (by omega) (by omega))
   have SR2:Hid (SRow w (.slice (some ⟨g0,0,none⟩) 0 0) (N.drop k0)):=zh (by have e:N.drop k0=[]:=List.drop_eq_nil_of_le (by omega);rw[e];exact srow_nothing)
   refine wp_region_F (fun w'=>w'.cell? ⟨p,0,none⟩=some (.slice (some ⟨g0,0,none⟩) N.length k0)) 21 (by kernel_rfl) ?_
   have hS0:w.drew.cell? ⟨p,0,none⟩=some (.slice (some ⟨g0,0,none⟩) N.length k0):=C0
   have B0:Hid (Below w.heap.size w w.drew):=zh (Below.refl _ _).drew
   refine hfTake 0 (v:=?_) ?_ (by assumption) ?_
   rotate_left
   ·(intro _ h;(try dsimp only at h);go_simp<;>with_reducible rfl)
   try simp only[Act.put,sAp,sA0,sAs]
   refine hfTake 2 (v:=?_) ?_ (by assumption) ?_
   rotate_left
   ·(intro _ h;(try dsimp only at h);go_simp<;>with_reducible rfl)
   try simp only[Act.put,sAp,sA0,sAs]
   refine hfTake 3 (v:=?_) ?_ (by assumption) ?_
   rotate_left
   ·(intro _ h;(try dsimp only at h);go_simp<;>with_reducible rfl)
   try simp only[Act.put,sAp,sA0,sAs]
   refine hfTake 4 (v:=?_) ?_ (by assumption) ?_
   rotate_left
   ·(intro _ h;(try dsimp only at h);go_simp<;>with_reducible rfl)
   try simp only[Act.put,sAp,sA0,sAs]
   refine hfTake 5 (v:=?_) ?_ (by assumption) ?_
   rotate_left
   ·(intro _ h;(try dsimp only at h);go_simp<;>with_reducible rfl)
   try simp only[Act.put,sAp,sA0,sAs]
   refine hfTake 6 (v:=?_) ?_ (by assumption) ?_
   rotate_left
   ·(intro _ h;(try dsimp only at h);go_simp<;>with_reducible rfl)
   try simp only[Act.put,sAp,sA0,sAs]
   refine hfTake 7 (v:=?_) ?_ (by assumption) ?_
   rotate_left
   ·(intro _ h;(try dsimp only at h);go_simp<;>with_reducible rfl)
   try simp only[Act.put,sAp,sA0,sAs]
   refine hfTake 9 (v:=?_) ?_ (by assumption) ?_
   rotate_left
   ·(intro _ h;(try dsimp only at h);go_simp<;>with_reducible rfl)
   try simp only[Act.put,sAp,sA0,sAs]
   refine hfTake 12 (v:=?_) ?_ (by assumption) ?_
   rotate_left
   ·(intro _ h;(try dsimp only at h);go_simp<;>with_reducible rfl)
   try simp only[Act.put,sAp,sA0,sAs]
   refine hfTake 13 (v:=?_) ?_ (by assumption) ?_
   rotate_left
   ·(intro _ h;(try dsimp only at h);go_simp<;>with_reducible rfl)
   try simp only[Act.put,sAp,sA0,sAs]
   refine hfTake 14 (v:=?_) ?_ (by assumption) ?_
   rotate_left
   ·(intro _ h;(try dsimp only at h);go_simp<;>with_reducible rfl)
   try simp only[Act.put,sAp,sA0,sAs]
   refine hfTake 15 (v:=?_) ?_ (by assumption) ?_
   rotate_left
   ·(intro _ h;(try dsimp only at h);go_simp<;>with_reducible rfl)
   try simp only[Act.put,sAp,sA0,sAs]
   refine hfTake 16 (v:=?_) ?_ (by assumption) ?_
   rotate_left
   ·(intro _ h;(try dsimp only at h);go_simp<;>with_reducible rfl)
   try simp only[Act.put,sAp,sA0,sAs]
   refine hfTake 17 (v:=?_) ?_ (by assumption) ?_
   rotate_left
   ·(intro _ h;(try dsimp only at h);go_simp<;>with_reducible rfl)
   try simp only[Act.put,sAp,sA0,sAs]
   refine wpAnyF_ready [1,10] (by kernel_rfl) (by simp) (ReadyF.consL rfl (fun K hK=>?_) (ReadyF.consL rfl (fun K hK=>?_) ReadyF.nil))
   ·go_simp
    have Be:Hid (Below w.heap.size w (w.alloc (.cells #[] 9)).drew):=zh (B0.out.alloc B0.out.size _)
    have OE:Hid ((w.alloc (.cells #[] 9)).drew.ownsRow w.heap.size 9 1 (.slice (some ⟨w.heap.size,0,none⟩) 0 0) 0 (([]:List ByteArray).map Value.string)):=zh ⟨rfl,Or.inr ⟨w.heap.size,0,_,rfl,B0.out.size,heap_alloc_new w.drew _,Nat.le_refl _,by decide,rfl,rfl⟩⟩
    have Ce:(w.alloc (.cells #[] 9)).drew.cell? ⟨p,0,none⟩=some (.slice (some ⟨g0,0,none⟩) N.length k0):=(Be.out.cell (p:=⟨p,0,none⟩) hpl0).trans C0
    refine hK.out _ _ (fun _=>Ce) ?_
    clear hK K
    try simp only[Act.put,sAp,sA0,sAs]
    generalize (w.alloc (.cells #[] 9)).drew=we at *
    refine wpAnyF_ready [8,10] (by kernel_rfl) (by simp) (ReadyF.consL rfl (fun K hK=>?_) (ReadyF.consL rfl (fun K hK=>?_) ReadyF.nil))
    ·(refine step_app_str we rfl (.tmp 38) (.tmp 44) 57 9 rfl 16 Tryz.underlying57 rs_str_info (by omega) w.heap.size Be.out.size w.heap.size 0 0 [] OE.out (N.take k0) _ rfl rfl (SR1.out.below Be.out) k0 (by rw[ltk.out,Nat.zero_add]) hib.out ?_;intro g2 c2 w2 ho2 hg2;rw[List.nil_append] at ho2;have B2:=Be.out.grown hg2 Be.out.size (fun q hq=>by injection hq with hq;have:=(OE.out.lt w.heap.size rfl).1;omega))
     have C2:=(B2.cell (p:=⟨p,0,none⟩) hpl0).trans C0
     have B2:=zh B2
     have ho2:=zh ho2
     refine hK.out _ _ (fun _=>C2) ?_
     clear hK K
     try simp only[Act.put,sAp,sA0,sAs]
     refine hfRdy 10 (by kernel_rfl) rfl fun K hK=>?_
     go_simp
     have Bo:Hid (Below w.heap.size w (w2.alloc (.cells #[.string s] 9))):=zh (B2.out.alloc B2.out.size _)
     have NB:Hid (Blk (w2.alloc (.cells #[.string s] 9)) w2.heap.size 9 #[.string s]):=zh (Blk.new w2 _ _)
     have Co:(w2.alloc (.cells #[.string s] 9)).cell? ⟨p,0,none⟩=some (.slice (some ⟨g0,0,none⟩) N.length k0):=(Bo.out.cell (p:=⟨p,0,none⟩) hpl0).trans C0
     have ho4:=zh (ho2.out.alloc (.cells #[.string s] 9))
     refine hK.out _ _ (fun _=>Co) ?_
     clear hK K
     try simp only[Act.put,sAp,sA0,sAs]
     generalize w2.heap.size=nb at *
     generalize (w2.alloc (.cells #[.string s] 9))=w4 at *
     have NS:=zh (srow_one NB.out)
     refine hfRdy 11 (by kernel_rfl) rfl fun K hK=>?_
     (refine step_app_str w4 rfl (.tmp 45) (.tmp 47) 57 9 rfl 16 Tryz.underlying57 rs_str_info (by omega) w.heap.size Bo.out.size g2 c2 k0 (N.take k0) ho4.out [s] _ rfl rfl NS.out m1 hm1.out hib1.out ?_;intro g5 c5 w5 ho5 hg5;have B5:=Bo.out.grown hg5 Bo.out.size (fun q hq=>by injection hq with hq;subst hq;exact(ho4.out.lt _ rfl).1);have C5:=(B5.cell (p:=⟨p,0,none⟩) hpl0).trans C0;have B5:=zh B5;have ho5:=zh ho5)
     refine hK.out _ _ (fun _=>C5) ?_
     clear hK K
     have hS5:=C5
     try simp only[Act.put,sAp,sA0,sAs]
     refine hfRdy 18 (by kernel_rfl) rfl fun K hK=>?_
     (refine step_app_str w5 rfl (.tmp 48) (.tmp 54) 57 9 rfl 16 Tryz.underlying57 rs_str_info (by omega) w.heap.size B5.out.size g5 c5 m1 (N.take k0++[s]) ho5.out (N.drop k0) _ rfl rfl (SR2.out.below B5.out) M (by rw[ldr.out];exact hm2.out) hM1.out ?_;intro g6 c6 w6 ho6 hg6;have B6:=B5.out.grown hg6 B5.out.size (fun q hq=>by injection hq with hq;subst hq;exact(ho5.out.lt _ rfl).1);have C6:=(B6.cell (p:=⟨p,0,none⟩) hpl0).trans C0;have F6:=(B6.frozen (p:=⟨p,0,none⟩) hpl0).trans F0;have B6:=zh B6;have ho6:=zh ho6)
     refine hK.out _ _ (fun _=>C6) ?_
     clear hK K
     have hS6:=C6
     try simp only[Act.put,sAp,sA0,sAs]
     refine hfRdy 19 (by kernel_rfl) rfl fun K hK=>?_
     go_simp
     refine hK.out _ _ (fun _=>C6) ?_
     clear hK K
     have hS7:=C6
     try simp only[Act.put,sAp,sA0,sAs]
     refine hfRdy 20 (by kernel_rfl) rfl fun K hK=>?_
     go_simp
     refine hK.out _ _ (fun _=>C6) ?_
     clear hK K
     have hS8:=C6
     try simp only[Act.put,sAp,sA0,sAs]
     refine hfRdy 21 (by kernel_rfl) rfl fun K hK=>?_
     go_simp
     refine hK.out _ _ (fun h=>absurd rfl h) ?_
     refine wpAnyF_done (by kernel_rfl) ?_ _
     clear hK K
     go_wp2_with fail
     go_meet
     exact⟨g6,c6,((hp0.out.below B6.out hpl0).set_ 0 _),ownsRow_setCell_below ho6.out (by exact hpl0) _,((Kept.refl _ w).below B6.out (fun k h=>h.1)).setCell (by simp) _⟩
    ·go_simp
     have Bo:Hid (Below w.heap.size w (we.alloc (.cells #[.string s] 9))):=zh (Be.out.alloc Be.out.size _)
     have NB:Hid (Blk (we.alloc (.cells #[.string s] 9)) we.heap.size 9 #[.string s]):=zh (Blk.new we _ _)
     have Co:(we.alloc (.cells #[.string s] 9)).cell? ⟨p,0,none⟩=some (.slice (some ⟨g0,0,none⟩) N.length k0):=(Bo.out.cell (p:=⟨p,0,none⟩) hpl0).trans C0
     have OE2:=zh (OE.out.alloc (.cells #[.string s] 9))
     refine hK.out _ _ (fun _=>Co) ?_
     clear hK K
     try simp only[Act.put,sAp,sA0,sAs]
     have hne:Hid (we.heap.size≠w.heap.size):=zh (by have:=(OE.out.lt w.heap.size rfl).2;omega)
     generalize we.heap.size=nb at *
     generalize (we.alloc (.cells #[.string s] 9))=wo at *
     refine hfRdy 8 (by kernel_rfl) rfl fun K hK=>?_
     (refine step_app_str wo rfl (.tmp 38) (.tmp 44) 57 9 rfl 16 Tryz.underlying57 rs_str_info (by omega) w.heap.size Bo.out.size w.heap.size 0 0 [] OE2.out (N.take k0) _ rfl rfl (SR1.out.below Bo.out) k0 (by rw[ltk.out,Nat.zero_add]) hib.out ?_;intro g2 c2 w2 ho2 hg2;rw[List.nil_append] at ho2;have B2:=Bo.out.grown hg2 Bo.out.size (fun q hq=>by injection hq with hq;have:=(OE2.out.lt w.heap.size rfl).1;omega))
     have C2:=(B2.cell (p:=⟨p,0,none⟩) hpl0).trans C0
     have B2:=zh B2
     have ho2:=zh ho2
     refine hK.out _ _ (fun _=>C2) ?_
     clear hK K
     try simp only[Act.put,sAp,sA0,sAs]
     have NS:=zh (srow_one (NB.out.grown hg2 (fun e=>by have e:=Option.some.inj e;exact hne.out e)))
     refine hfRdy 11 (by kernel_rfl) rfl fun K hK=>?_
     (refine step_app_str w2 rfl (.tmp 45) (.tmp 47) 57 9 rfl 16 Tryz.underlying57 rs_str_info (by omega) w.heap.size B2.out.size g2 c2 k0 (N.take k0) ho2.out [s] _ rfl rfl NS.out m1 hm1.out hib1.out ?_;intro g5 c5 w5 ho5 hg5;have B5:=B2.out.grown hg5 B2.out.size (fun q hq=>by injection hq with hq;subst hq;exact(ho2.out.lt _ rfl).1);have C5:=(B5.cell (p:=⟨p,0,none⟩) hpl0).trans C0;have B5:=zh B5;have ho5:=zh ho5)
     refine hK.out _ _ (fun _=>C5) ?_
     clear hK K
     have hS5:=C5
     try simp only[Act.put,sAp,sA0,sAs]
     refine hfRdy 18 (by kernel_rfl) rfl fun K hK=>?_
     (refine step_app_str w5 rfl (.tmp 48) (.tmp 54) 57 9 rfl 16 Tryz.underlying57 rs_str_info (by omega) w.heap.size B5.out.size g5 c5 m1 (N.take k0++[s]) ho5.out (N.drop k0) _ rfl rfl (SR2.out.below B5.out) M (by rw[ldr.out];exact hm2.out) hM1.out ?_;intro g6 c6 w6 ho6 hg6;have B6:=B5.out.grown hg6 B5.out.size (fun q hq=>by injection hq with hq;subst hq;exact(ho5.out.lt _ rfl).1);have C6:=(B6.cell (p:=⟨p,0,none⟩) hpl0).trans C0;have F6:=(B6.frozen (p:=⟨p,0,none⟩) hpl0).trans F0;have B6:=zh B6;have ho6:=zh ho6)
     refine hK.out _ _ (fun _=>C6) ?_
     clear hK K
     have hS6:=C6
     try simp only[Act.put,sAp,sA0,sAs]
     refine hfRdy 19 (by kernel_rfl) rfl fun K hK=>?_
     go_simp
     refine hK.out _ _ (fun _=>C6) ?_
     clear hK K
     have hS7:=C6
     try simp only[Act.put,sAp,sA0,sAs]
     refine hfRdy 20 (by kernel_rfl) rfl fun K hK=>?_
     go_simp
     refine hK.out _ _ (fun _=>C6) ?_
     clear hK K
     have hS8:=C6
     try simp only[Act.put,sAp,sA0,sAs]
     refine hfRdy 21 (by kernel_rfl) rfl fun K hK=>?_
     go_simp
     refine hK.out _ _ (fun h=>absurd rfl h) ?_
     refine wpAnyF_done (by kernel_rfl) ?_ _
     clear hK K
     go_wp2_with fail
     go_meet
     exact⟨g6,c6,((hp0.out.below B6.out hpl0).set_ 0 _),ownsRow_setCell_below ho6.out (by exact hpl0) _,((Kept.refl _ w).below B6.out (fun k h=>h.1)).setCell (by simp) _⟩
   ·go_simp
    have Bo:Hid (Below w.heap.size w (w.alloc (.cells #[.string s] 9)).drew):=zh (B0.out.alloc B0.out.size _)
    have NB:Hid (Blk (w.alloc (.cells #[.string s] 9)).drew w.heap.size 9 #[.string s]):=zh (Blk.new w.drew _ _)
    have Co:(w.alloc (.cells #[.string s] 9)).drew.cell? ⟨p,0,none⟩=some (.slice (some ⟨g0,0,none⟩) N.length k0):=(Bo.out.cell (p:=⟨p,0,none⟩) hpl0).trans C0
    refine hK.out _ _ (fun _=>Co) ?_
    clear hK K
    try simp only[Act.put,sAp,sA0,sAs]
    generalize (w.alloc (.cells #[.string s] 9)).drew=wo at *
    refine hfRdy 1 (by kernel_rfl) rfl fun K hK=>?_
    go_simp
    have Be:Hid (Below w.heap.size w (wo.alloc (.cells #[] 9))):=zh (Bo.out.alloc Bo.out.size _)
    have OE:Hid ((wo.alloc (.cells #[] 9)).ownsRow w.heap.size 9 1 (.slice (some ⟨wo.heap.size,0,none⟩) 0 0) 0 (([]:List ByteArray).map Value.string)):=zh ⟨rfl,Or.inr ⟨wo.heap.size,0,_,rfl,Bo.out.size,heap_alloc_new wo _,Nat.le_refl _,by decide,rfl,rfl⟩⟩
    have Ce:(wo.alloc (.cells #[] 9)).cell? ⟨p,0,none⟩=some (.slice (some ⟨g0,0,none⟩) N.length k0):=(Be.out.cell (p:=⟨p,0,none⟩) hpl0).trans C0
    have NB2:=zh (NB.out.alloc (.cells #[] 9))
    have hne:Hid (w.heap.size≠wo.heap.size):=zh (by have:=NB.out.lt;omega)
    refine hK.out _ _ (fun _=>Ce) ?_
    clear hK K
    try simp only[Act.put,sAp,sA0,sAs]
    generalize wo.heap.size=ge at *
    generalize (wo.alloc (.cells #[] 9))=we at *
    refine hfRdy 8 (by kernel_rfl) rfl fun K hK=>?_
    (refine step_app_str we rfl (.tmp 38) (.tmp 44) 57 9 rfl 16 Tryz.underlying57 rs_str_info (by omega) w.heap.size Be.out.size ge 0 0 [] OE.out (N.take k0) _ rfl rfl (SR1.out.below Be.out) k0 (by rw[ltk.out,Nat.zero_add]) hib.out ?_;intro g2 c2 w2 ho2 hg2;rw[List.nil_append] at ho2;have B2:=Be.out.grown hg2 Be.out.size (fun q hq=>by injection hq with hq;have:=(OE.out.lt ge rfl).1;omega))
    have C2:=(B2.cell (p:=⟨p,0,none⟩) hpl0).trans C0
    have B2:=zh B2
    have ho2:=zh ho2
    refine hK.out _ _ (fun _=>C2) ?_
    clear hK K
    try simp only[Act.put,sAp,sA0,sAs]
    have NS:=zh (srow_one (NB2.out.grown hg2 (fun e=>by have e:=Option.some.inj e;exact hne.out e)))
    refine hfRdy 11 (by kernel_rfl) rfl fun K hK=>?_
    (refine step_app_str w2 rfl (.tmp 45) (.tmp 47) 57 9 rfl 16 Tryz.underlying57 rs_str_info (by omega) w.heap.size B2.out.size g2 c2 k0 (N.take k0) ho2.out [s] _ rfl rfl NS.out m1 hm1.out hib1.out ?_;intro g5 c5 w5 ho5 hg5;have B5:=B2.out.grown hg5 B2.out.size (fun q hq=>by injection hq with hq;subst hq;exact(ho2.out.lt _ rfl).1);have C5:=(B5.cell (p:=⟨p,0,none⟩) hpl0).trans C0;have B5:=zh B5;have ho5:=zh ho5)
    refine hK.out _ _ (fun _=>C5) ?_
    clear hK K
    have hS5:=C5
    try simp only[Act.put,sAp,sA0,sAs]
    refine hfRdy 18 (by kernel_rfl) rfl fun K hK=>?_
    (refine step_app_str w5 rfl (.tmp 48) (.tmp 54) 57 9 rfl 16 Tryz.underlying57 rs_str_info (by omega) w.heap.size B5.out.size g5 c5 m1 (N.take k0++[s]) ho5.out (N.drop k0) _ rfl rfl (SR2.out.below B5.out) M (by rw[ldr.out];exact hm2.out) hM1.out ?_;intro g6 c6 w6 ho6 hg6;have B6:=B5.out.grown hg6 B5.out.size (fun q hq=>by injection hq with hq;subst hq;exact(ho5.out.lt _ rfl).1);have C6:=(B6.cell (p:=⟨p,0,none⟩) hpl0).trans C0;have F6:=(B6.frozen (p:=⟨p,0,none⟩) hpl0).trans F0;have B6:=zh B6;have ho6:=zh ho6)
    refine hK.out _ _ (fun _=>C6) ?_
    clear hK K
    have hS6:=C6
    try simp only[Act.put,sAp,sA0,sAs]
    refine hfRdy 19 (by kernel_rfl) rfl fun K hK=>?_
    go_simp
    refine hK.out _ _ (fun _=>C6) ?_
    clear hK K
    have hS7:=C6
    try simp only[Act.put,sAp,sA0,sAs]
    refine hfRdy 20 (by kernel_rfl) rfl fun K hK=>?_
    go_simp
    refine hK.out _ _ (fun _=>C6) ?_
    clear hK K
    have hS8:=C6
    try simp only[Act.put,sAp,sA0,sAs]
    refine hfRdy 21 (by kernel_rfl) rfl fun K hK=>?_
    go_simp
    refine hK.out _ _ (fun h=>absurd rfl h) ?_
    refine wpAnyF_done (by kernel_rfl) ?_ _
    clear hK K
    go_wp2_with fail
    go_meet
    exact⟨g6,c6,((hp0.out.below B6.out hpl0).set_ 0 _),ownsRow_setCell_below ho6.out (by exact hpl0) _,((Kept.refl _ w).below B6.out (fun k h=>h.1)).setCell (by simp) _⟩
  ·have hne0:¬ k0=i:=hc
   have SR1:Hid (SRow w (.slice (some ⟨g0,0,none⟩) i k0) (N.take i)):=zh (srow_take ho0.out i (by omega) (by omega))
   have SR2:Hid (SRow w (.slice (some ⟨g0,i,none⟩) (N.length-i) (k0-i)) (N.drop i)):=zh (srow_drop ho0.out i (by omega) (by omega))
   refine wp_region_F (fun w'=>w'.cell? ⟨p,0,none⟩=some (.slice (some ⟨g0,0,none⟩) N.length k0)) 21 (by kernel_rfl) ?_
   have hS0:w.drew.cell? ⟨p,0,none⟩=some (.slice (some ⟨g0,0,none⟩) N.length k0):=C0
   have B0:Hid (Below w.heap.size w w.drew):=zh (Below.refl _ _).drew
   refine hfTake 0 (v:=?_) ?_ (by assumption) ?_
   rotate_left
   ·(intro _ h;(try dsimp only at h);go_simp<;>with_reducible rfl)
   try simp only[Act.put,sAp,sA0,sAs]
   refine hfTake 2 (v:=?_) ?_ (by assumption) ?_
   rotate_left
   ·(intro _ h;(try dsimp only at h);go_simp<;>with_reducible rfl)
   try simp only[Act.put,sAp,sA0,sAs]
   refine hfTake 3 (v:=?_) ?_ (by assumption) ?_
   rotate_left
   ·(intro _ h;(try dsimp only at h);go_simp<;>with_reducible rfl)
   try simp only[Act.put,sAp,sA0,sAs]
   refine hfTake 4 (v:=?_) ?_ (by assumption) ?_
   rotate_left
   ·(intro _ h;(try dsimp only at h);go_simp<;>with_reducible rfl)
   try simp only[Act.put,sAp,sA0,sAs]
   refine hfTake 5 (v:=?_) ?_ (by assumption) ?_
   rotate_left
   ·(intro _ h;(try dsimp only at h);go_simp<;>with_reducible rfl)
   try simp only[Act.put,sAp,sA0,sAs]
   refine hfTake 6 (v:=?_) ?_ (by assumption) ?_
   rotate_left
   ·(intro _ h;(try dsimp only at h);go_simp<;>with_reducible rfl)
   try simp only[Act.put,sAp,sA0,sAs]
   refine hfTake 7 (v:=?_) ?_ (by assumption) ?_
   rotate_left
   ·(intro _ h;(try dsimp only at h);go_simp<;>with_reducible rfl)
   try simp only[Act.put,sAp,sA0,sAs]
   refine hfTake 9 (v:=?_) ?_ (by assumption) ?_
   rotate_left
   ·(intro _ h;(try dsimp only at h);go_simp<;>with_reducible rfl)
   try simp only[Act.put,sAp,sA0,sAs]
   refine hfTake 12 (v:=?_) ?_ (by assumption) ?_
   rotate_left
   ·(intro _ h;(try dsimp only at h);go_simp<;>with_reducible rfl)
   try simp only[Act.put,sAp,sA0,sAs]
   refine hfTake 13 (v:=?_) ?_ (by assumption) ?_
   rotate_left
   ·(intro _ h;(try dsimp only at h);go_simp<;>with_reducible rfl)
   try simp only[Act.put,sAp,sA0,sAs]
   refine hfTake 14 (v:=?_) ?_ (by assumption) ?_
   rotate_left
   ·(intro _ h;(try dsimp only at h);go_simp<;>with_reducible rfl)
   try simp only[Act.put,sAp,sA0,sAs]
   refine hfTake 15 (v:=?_) ?_ (by assumption) ?_
   rotate_left
   ·(intro _ h;(try dsimp only at h);go_simp<;>with_reducible rfl)
   try simp only[Act.put,sAp,sA0,sAs]
   refine hfTake 16 (v:=?_) ?_ (by assumption) ?_
   rotate_left
   ·(intro _ h;(try dsimp only at h);go_simp<;>with_reducible rfl)
   try simp only[Act.put,sAp,sA0,sAs]
   refine hfTake 17 (v:=?_) ?_ (by assumption) ?_
   rotate_left
   ·(intro _ h;(try dsimp only at h);go_simp<;>with_reducible rfl)
   try simp only[Act.put,sAp,sA0,sAs]
   refine wpAnyF_ready [1,10] (by kernel_rfl) (by simp) (ReadyF.consL rfl (fun K hK=>?_) (ReadyF.consL rfl (fun K hK=>?_) ReadyF.nil))
   ·go_simp
    have Be:Hid (Below w.heap.size w (w.alloc (.cells #[] 9)).drew):=zh (B0.out.alloc B0.out.size _)
    have OE:Hid ((w.alloc (.cells #[] 9)).drew.ownsRow w.heap.size 9 1 (.slice (some ⟨w.heap.size,0,none⟩) 0 0) 0 (([]:List ByteArray).map Value.string)):=zh ⟨rfl,Or.inr ⟨w.heap.size,0,_,rfl,B0.out.size,heap_alloc_new w.drew _,Nat.le_refl _,by decide,rfl,rfl⟩⟩
    have Ce:(w.alloc (.cells #[] 9)).drew.cell? ⟨p,0,none⟩=some (.slice (some ⟨g0,0,none⟩) N.length k0):=(Be.out.cell (p:=⟨p,0,none⟩) hpl0).trans C0
    refine hK.out _ _ (fun _=>Ce) ?_
    clear hK K
    try simp only[Act.put,sAp,sA0,sAs]
    generalize (w.alloc (.cells #[] 9)).drew=we at *
    refine wpAnyF_ready [8,10] (by kernel_rfl) (by simp) (ReadyF.consL rfl (fun K hK=>?_) (ReadyF.consL rfl (fun K hK=>?_) ReadyF.nil))
    ·(refine step_app_str we rfl (.tmp 38) (.tmp 44) 57 9 rfl 16 Tryz.underlying57 rs_str_info (by omega) w.heap.size Be.out.size w.heap.size 0 0 [] OE.out (N.take i) _ rfl rfl (SR1.out.below Be.out) i (by rw[ltk.out,Nat.zero_add]) hib.out ?_;intro g2 c2 w2 ho2 hg2;rw[List.nil_append] at ho2;have B2:=Be.out.grown hg2 Be.out.size (fun q hq=>by injection hq with hq;have:=(OE.out.lt w.heap.size rfl).1;omega))
     have C2:=(B2.cell (p:=⟨p,0,none⟩) hpl0).trans C0
     have B2:=zh B2
     have ho2:=zh ho2
     refine hK.out _ _ (fun _=>C2) ?_
     clear hK K
     try simp only[Act.put,sAp,sA0,sAs]
     refine hfRdy 10 (by kernel_rfl) rfl fun K hK=>?_
     go_simp
     have Bo:Hid (Below w.heap.size w (w2.alloc (.cells #[.string s] 9))):=zh (B2.out.alloc B2.out.size _)
     have NB:Hid (Blk (w2.alloc (.cells #[.string s] 9)) w2.heap.size 9 #[.string s]):=zh (Blk.new w2 _ _)
     have Co:(w2.alloc (.cells #[.string s] 9)).cell? ⟨p,0,none⟩=some (.slice (some ⟨g0,0,none⟩) N.length k0):=(Bo.out.cell (p:=⟨p,0,none⟩) hpl0).trans C0
     have ho4:=zh (ho2.out.alloc (.cells #[.string s] 9))
     refine hK.out _ _ (fun _=>Co) ?_
     clear hK K
     try simp only[Act.put,sAp,sA0,sAs]
     generalize w2.heap.size=nb at *
     generalize (w2.alloc (.cells #[.string s] 9))=w4 at *
     have NS:=zh (srow_one NB.out)
     refine hfRdy 11 (by kernel_rfl) rfl fun K hK=>?_
     (refine step_app_str w4 rfl (.tmp 45) (.tmp 47) 57 9 rfl 16 Tryz.underlying57 rs_str_info (by omega) w.heap.size Bo.out.size g2 c2 i (N.take i) ho4.out [s] _ rfl rfl NS.out m1 hm1.out hib1.out ?_;intro g5 c5 w5 ho5 hg5;have B5:=Bo.out.grown hg5 Bo.out.size (fun q hq=>by injection hq with hq;subst hq;exact(ho4.out.lt _ rfl).1);have C5:=(B5.cell (p:=⟨p,0,none⟩) hpl0).trans C0;have B5:=zh B5;have ho5:=zh ho5)
     refine hK.out _ _ (fun _=>C5) ?_
     clear hK K
     have hS5:=C5
     try simp only[Act.put,sAp,sA0,sAs]
     refine hfRdy 18 (by kernel_rfl) rfl fun K hK=>?_
     (refine step_app_str w5 rfl (.tmp 48) (.tmp 54) 57 9 rfl 16 Tryz.underlying57 rs_str_info (by omega) w.heap.size B5.out.size g5 c5 m1 (N.take i++[s]) ho5.out (N.drop i) _ rfl rfl (SR2.out.below B5.out) M (by rw[ldr.out];exact hm2.out) hM1.out ?_;intro g6 c6 w6 ho6 hg6;have B6:=B5.out.grown hg6 B5.out.size (fun q hq=>by injection hq with hq;subst hq;exact(ho5.out.lt _ rfl).1);have C6:=(B6.cell (p:=⟨p,0,none⟩) hpl0).trans C0;have F6:=(B6.frozen (p:=⟨p,0,none⟩) hpl0).trans F0;have B6:=zh B6;have ho6:=zh ho6)
     refine hK.out _ _ (fun _=>C6) ?_
     clear hK K
     have hS6:=C6
     try simp only[Act.put,sAp,sA0,sAs]
     refine hfRdy 19 (by kernel_rfl) rfl fun K hK=>?_
     go_simp
     refine hK.out _ _ (fun _=>C6) ?_
     clear hK K
     have hS7:=C6
     try simp only[Act.put,sAp,sA0,sAs]
     refine hfRdy 20 (by kernel_rfl) rfl fun K hK=>?_
     go_simp
     refine hK.out _ _ (fun _=>C6) ?_
     clear hK K
     have hS8:=C6
     try simp only[Act.put,sAp,sA0,sAs]
     refine hfRdy 21 (by kernel_rfl) rfl fun K hK=>?_
     go_simp
     refine hK.out _ _ (fun h=>absurd rfl h) ?_
     refine wpAnyF_done (by kernel_rfl) ?_ _
     clear hK K
     go_wp2_with fail
     go_meet
     exact⟨g6,c6,((hp0.out.below B6.out hpl0).set_ 0 _),ownsRow_setCell_below ho6.out (by exact hpl0) _,((Kept.refl _ w).below B6.out (fun k h=>h.1)).setCell (by simp) _⟩
    ·go_simp
     have Bo:Hid (Below w.heap.size w (we.alloc (.cells #[.string s] 9))):=zh (Be.out.alloc Be.out.size _)
     have NB:Hid (Blk (we.alloc (.cells #[.string s] 9)) we.heap.size 9 #[.string s]):=zh (Blk.new we _ _)
     have Co:(we.alloc (.cells #[.string s] 9)).cell? ⟨p,0,none⟩=some (.slice (some ⟨g0,0,none⟩) N.length k0):=(Bo.out.cell (p:=⟨p,0,none⟩) hpl0).trans C0
     have OE2:=zh (OE.out.alloc (.cells #[.string s] 9))
     refine hK.out _ _ (fun _=>Co) ?_
     clear hK K
     try simp only[Act.put,sAp,sA0,sAs]
     have hne:Hid (we.heap.size≠w.heap.size):=zh (by have:=(OE.out.lt w.heap.size rfl).2;omega)
     generalize we.heap.size=nb at *
     generalize (we.alloc (.cells #[.string s] 9))=wo at *
     refine hfRdy 8 (by kernel_rfl) rfl fun K hK=>?_
     (refine step_app_str wo rfl (.tmp 38) (.tmp 44) 57 9 rfl 16 Tryz.underlying57 rs_str_info (by omega) w.heap.size Bo.out.size w.heap.size 0 0 [] OE2.out (N.take i) _ rfl rfl (SR1.out.below Bo.out) i (by rw[ltk.out,Nat.zero_add]) hib.out ?_;intro g2 c2 w2 ho2 hg2;rw[List.nil_append] at ho2;have B2:=Bo.out.grown hg2 Bo.out.size (fun q hq=>by injection hq with hq;have:=(OE2.out.lt w.heap.size rfl).1;omega))
     have C2:=(B2.cell (p:=⟨p,0,none⟩) hpl0).trans C0
     have B2:=zh B2
     have ho2:=zh ho2
     refine hK.out _ _ (fun _=>C2) ?_
     clear hK K
     try simp only[Act.put,sAp,sA0,sAs]
     have NS:=zh (srow_one (NB.out.grown hg2 (fun e=>by have e:=Option.some.inj e;exact hne.out e)))
     refine hfRdy 11 (by kernel_rfl) rfl fun K hK=>?_
     (refine step_app_str w2 rfl (.tmp 45) (.tmp 47) 57 9 rfl 16 Tryz.underlying57 rs_str_info (by omega) w.heap.size B2.out.size g2 c2 i (N.take i) ho2.out [s] _ rfl rfl NS.out m1 hm1.out hib1.out ?_;intro g5 c5 w5 ho5 hg5;have B5:=B2.out.grown hg5 B2.out.size (fun q hq=>by injection hq with hq;subst hq;exact(ho2.out.lt _ rfl).1);have C5:=(B5.cell (p:=⟨p,0,none⟩) hpl0).trans C0;have B5:=zh B5;have ho5:=zh ho5)
     refine hK.out _ _ (fun _=>C5) ?_
     clear hK K
     have hS5:=C5
     try simp only[Act.put,sAp,sA0,sAs]
     refine hfRdy 18 (by kernel_rfl) rfl fun K hK=>?_
     (refine step_app_str w5 rfl (.tmp 48) (.tmp 54) 57 9 rfl 16 Tryz.underlying57 rs_str_info (by omega) w.heap.size B5.out.size g5 c5 m1 (N.take i++[s]) ho5.out (N.drop i) _ rfl rfl (SR2.out.below B5.out) M (by rw[ldr.out];exact hm2.out) hM1.out ?_;intro g6 c6 w6 ho6 hg6;have B6:=B5.out.grown hg6 B5.out.size (fun q hq=>by injection hq with hq;subst hq;exact(ho5.out.lt _ rfl).1);have C6:=(B6.cell (p:=⟨p,0,none⟩) hpl0).trans C0;have F6:=(B6.frozen (p:=⟨p,0,none⟩) hpl0).trans F0;have B6:=zh B6;have ho6:=zh ho6)
     refine hK.out _ _ (fun _=>C6) ?_
     clear hK K
     have hS6:=C6
     try simp only[Act.put,sAp,sA0,sAs]
     refine hfRdy 19 (by kernel_rfl) rfl fun K hK=>?_
     go_simp
     refine hK.out _ _ (fun _=>C6) ?_
     clear hK K
     have hS7:=C6
     try simp only[Act.put,sAp,sA0,sAs]
     refine hfRdy 20 (by kernel_rfl) rfl fun K hK=>?_
     go_simp
     refine hK.out _ _ (fun _=>C6) ?_
     clear hK K
     have hS8:=C6
     try simp only[Act.put,sAp,sA0,sAs]
     refine hfRdy 21 (by kernel_rfl) rfl fun K hK=>?_
     go_simp
     refine hK.out _ _ (fun h=>absurd rfl h) ?_
     refine wpAnyF_done (by kernel_rfl) ?_ _
     clear hK K
     go_wp2_with fail
     go_meet
     exact⟨g6,c6,((hp0.out.below B6.out hpl0).set_ 0 _),ownsRow_setCell_below ho6.out (by exact hpl0) _,((Kept.refl _ w).below B6.out (fun k h=>h.1)).setCell (by simp) _⟩
   ·go_simp
    have Bo:Hid (Below w.heap.size w (w.alloc (.cells #[.string s] 9)).drew):=zh (B0.out.alloc B0.out.size _)
    have NB:Hid (Blk (w.alloc (.cells #[.string s] 9)).drew w.heap.size 9 #[.string s]):=zh (Blk.new w.drew _ _)
    have Co:(w.alloc (.cells #[.string s] 9)).drew.cell? ⟨p,0,none⟩=some (.slice (some ⟨g0,0,none⟩) N.length k0):=(Bo.out.cell (p:=⟨p,0,none⟩) hpl0).trans C0
    refine hK.out _ _ (fun _=>Co) ?_
    clear hK K
    try simp only[Act.put,sAp,sA0,sAs]
    generalize (w.alloc (.cells #[.string s] 9)).drew=wo at *
    refine hfRdy 1 (by kernel_rfl) rfl fun K hK=>?_
    go_simp
    have Be:Hid (Below w.heap.size w (wo.alloc (.cells #[] 9))):=zh (Bo.out.alloc Bo.out.size _)
    have OE:Hid ((wo.alloc (.cells #[] 9)).ownsRow w.heap.size 9 1 (.slice (some ⟨wo.heap.size,0,none⟩) 0 0) 0 (([]:List ByteArray).map Value.string)):=zh ⟨rfl,Or.inr ⟨wo.heap.size,0,_,rfl,Bo.out.size,heap_alloc_new wo _,Nat.le_refl _,by decide,rfl,rfl⟩⟩
    have Ce:(wo.alloc (.cells #[] 9)).cell? ⟨p,0,none⟩=some (.slice (some ⟨g0,0,none⟩) N.length k0):=(Be.out.cell (p:=⟨p,0,none⟩) hpl0).trans C0
    have NB2:=zh (NB.out.alloc (.cells #[] 9))
    have hne:Hid (w.heap.size≠wo.heap.size):=zh (by have:=NB.out.lt;omega)
    refine hK.out _ _ (fun _=>Ce) ?_
    clear hK K
    try simp only[Act.put,sAp,sA0,sAs]
    generalize wo.heap.size=ge at *
    generalize (wo.alloc (.cells #[] 9))=we at *
    refine hfRdy 8 (by kernel_rfl) rfl fun K hK=>?_
    (refine step_app_str we rfl (.tmp 38) (.tmp 44) 57 9 rfl 16 Tryz.underlying57 rs_str_info (by omega) w.heap.size Be.out.size ge 0 0 [] OE.out (N.take i) _ rfl rfl (SR1.out.below Be.out) i (by rw[ltk.out,Nat.zero_add]) hib.out ?_;intro g2 c2 w2 ho2 hg2;rw[List.nil_append] at ho2;have B2:=Be.out.grown hg2 Be.out.size (fun q hq=>by injection hq with hq;have:=(OE.out.lt ge rfl).1;omega))
    have C2:=(B2.cell (p:=⟨p,0,none⟩) hpl0).trans C0
    have B2:=zh B2
    have ho2:=zh ho2
    refine hK.out _ _ (fun _=>C2) ?_
    clear hK K
    try simp only[Act.put,sAp,sA0,sAs]
    have NS:=zh (srow_one (NB2.out.grown hg2 (fun e=>by have e:=Option.some.inj e;exact hne.out e)))
    refine hfRdy 11 (by kernel_rfl) rfl fun K hK=>?_
    (refine step_app_str w2 rfl (.tmp 45) (.tmp 47) 57 9 rfl 16 Tryz.underlying57 rs_str_info (by omega) w.heap.size B2.out.size g2 c2 i (N.take i) ho2.out [s] _ rfl rfl NS.out m1 hm1.out hib1.out ?_;intro g5 c5 w5 ho5 hg5;have B5:=B2.out.grown hg5 B2.out.size (fun q hq=>by injection hq with hq;subst hq;exact(ho2.out.lt _ rfl).1);have C5:=(B5.cell (p:=⟨p,0,none⟩) hpl0).trans C0;have B5:=zh B5;have ho5:=zh ho5)
    refine hK.out _ _ (fun _=>C5) ?_
    clear hK K
    have hS5:=C5
    try simp only[Act.put,sAp,sA0,sAs]
    refine hfRdy 18 (by kernel_rfl) rfl fun K hK=>?_
    (refine step_app_str w5 rfl (.tmp 48) (.tmp 54) 57 9 rfl 16 Tryz.underlying57 rs_str_info (by omega) w.heap.size B5.out.size g5 c5 m1 (N.take i++[s]) ho5.out (N.drop i) _ rfl rfl (SR2.out.below B5.out) M (by rw[ldr.out];exact hm2.out) hM1.out ?_;intro g6 c6 w6 ho6 hg6;have B6:=B5.out.grown hg6 B5.out.size (fun q hq=>by injection hq with hq;subst hq;exact(ho5.out.lt _ rfl).1);have C6:=(B6.cell (p:=⟨p,0,none⟩) hpl0).trans C0;have F6:=(B6.frozen (p:=⟨p,0,none⟩) hpl0).trans F0;have B6:=zh B6;have ho6:=zh ho6)
    refine hK.out _ _ (fun _=>C6) ?_
    clear hK K
    have hS6:=C6
    try simp only[Act.put,sAp,sA0,sAs]
    refine hfRdy 19 (by kernel_rfl) rfl fun K hK=>?_
    go_simp
    refine hK.out _ _ (fun _=>C6) ?_
    clear hK K
    have hS7:=C6
    try simp only[Act.put,sAp,sA0,sAs]
    refine hfRdy 20 (by kernel_rfl) rfl fun K hK=>?_
    go_simp
    refine hK.out _ _ (fun _=>C6) ?_
    clear hK K
    have hS8:=C6
    try simp only[Act.put,sAp,sA0,sAs]
    refine hfRdy 21 (by kernel_rfl) rfl fun K hK=>?_
    go_simp
    refine hK.out _ _ (fun h=>absurd rfl h) ?_
    refine wpAnyF_done (by kernel_rfl) ?_ _
    clear hK K
    go_wp2_with fail
    go_meet
    exact⟨g6,c6,((hp0.out.below B6.out hpl0).set_ 0 _),ownsRow_setCell_below ho6.out (by exact hpl0) _,((Kept.refl _ w).below B6.out (fun k h=>h.1)).setCell (by simp) _⟩
 case rest=>
  obtain⟨g4,c4,k1,k2,k3⟩:=hcut
  have ho1:=zh (own_kept ht0.out k3 utl.out)
  have hp1:=zh k1
  have ho2:=zh k2
  have k3':=zh k3
  have hpw:=hp0.out.lt
  have hle:=k3.size
  clear hp0 ho0 ht0 k1 k2 k3 C9
  go_upto_region 14 with fail
  go_cut [] from 58 to 78 (fun wx=>∃ g' c':Nat,Blk wx p 76 #[.slice (some ⟨g4,0,none⟩) M c4,(.slice (some ⟨g',0,none⟩) M c')]∧wx.ownsRow wc.heap.size 9 1 (.slice (some ⟨g',0,none⟩) M c') M ((T.take i++[t]++T.drop i).map Value.string)∧Kept (fun k=>k<wc.heap.size∧k≠p) wc wx)
  case first=>
   have C0:=hp1.out.cell 1
   have F0:=hp1.out.frozen 1
   simp only[gAr,gC0,gCs] at C0
   have hpl1:=hp1.out.lt
   have hib:Hid (i≤1000000):=zh (by omega)
   have ltk:Hid ((T.take i).length=i):=zh (by rw[List.length_take];omega)
   have ldr:Hid ((T.drop i).length=T.length-i):=zh (by rw[List.length_drop])
   have hm2:Hid (m1+(T.length-i)=M):=zh (by have h1:=hm1.out;have h2:=hM.out;have h3:=len'.out;omega)
   rcases own_cases ho1.out with ⟨rfl,hL0⟩ | ⟨g1,k1,rfl,hck⟩
   ·obtain rfl:i=0:=by omega
    have SR1:Hid (SRow wc (.slice none 0 0) (T.take 0)):=zh (srow_none (by have e:T=[]:=List.eq_nil_of_length_eq_zero hL0;rw[e];rfl) rfl)
    have SR2:Hid (SRow wc (.slice none 0 0) (T.drop 0)):=zh (srow_none (by have e:T=[]:=List.eq_nil_of_length_eq_zero hL0;rw[e,List.drop_nil]) rfl)
    refine wp_region_F (fun w'=>w'.cell? ⟨p,1,none⟩=some (.slice none 0 0)) 21 (by kernel_rfl) ?_
    have hS0:wc.drew.cell? ⟨p,1,none⟩=some (.slice none 0 0):=C0
    have B0:Hid (Below wc.heap.size wc wc.drew):=zh (Below.refl _ _).drew
    refine hfTake 0 (v:=?_) ?_ (by assumption) ?_
    rotate_left
    ·(intro _ h;(try dsimp only at h);go_simp<;>with_reducible rfl)
    try simp only[Act.put,sAp,sA0,sAs]
    refine hfTake 2 (v:=?_) ?_ (by assumption) ?_
    rotate_left
    ·(intro _ h;(try dsimp only at h);go_simp<;>with_reducible rfl)
    try simp only[Act.put,sAp,sA0,sAs]
    refine hfTake 3 (v:=?_) ?_ (by assumption) ?_
    rotate_left
    ·(intro _ h;(try dsimp only at h);go_simp<;>with_reducible rfl)
    try simp only[Act.put,sAp,sA0,sAs]
    refine hfTake 4 (v:=?_) ?_ (by assumption) ?_
    rotate_left
    ·(intro _ h;(try dsimp only at h);go_simp<;>with_reducible rfl)
    try simp only[Act.put,sAp,sA0,sAs]
    refine hfTake 5 (v:=?_) ?_ (by assumption) ?_
    rotate_left
    ·(intro _ h;(try dsimp only at h);go_simp<;>with_reducible rfl)
    try simp only[Act.put,sAp,sA0,sAs]
    refine hfTake 6 (v:=?_) ?_ (by assumption) ?_
    rotate_left
    ·(intro _ h;(try dsimp only at h);go_simp<;>with_reducible rfl)
    try simp only[Act.put,sAp,sA0,sAs]
    refine hfTake 7 (v:=?_) ?_ (by assumption) ?_
    rotate_left
    ·(intro _ h;(try dsimp only at h);go_simp<;>with_reducible rfl)
    try simp only[Act.put,sAp,sA0,sAs]
    refine hfTake 9 (v:=?_) ?_ (by assumption) ?_
    rotate_left
    ·(intro _ h;(try dsimp only at h);go_simp<;>with_reducible rfl)
    try simp only[Act.put,sAp,sA0,sAs]
    refine hfTake 12 (v:=?_) ?_ (by assumption) ?_
    rotate_left
    ·(intro _ h;(try dsimp only at h);go_simp<;>with_reducible rfl)
    try simp only[Act.put,sAp,sA0,sAs]
    refine hfTake 13 (v:=?_) ?_ (by assumption) ?_
    rotate_left
    ·(intro _ h;(try dsimp only at h);go_simp<;>with_reducible rfl)
    try simp only[Act.put,sAp,sA0,sAs]
    refine hfTake 14 (v:=?_) ?_ (by assumption) ?_
    rotate_left
    ·(intro _ h;(try dsimp only at h);go_simp<;>with_reducible rfl)
    try simp only[Act.put,sAp,sA0,sAs]
    refine hfTake 15 (v:=?_) ?_ (by assumption) ?_
    rotate_left
    ·(intro _ h;(try dsimp only at h);go_simp<;>with_reducible rfl)
    try simp only[Act.put,sAp,sA0,sAs]
    refine hfTake 16 (v:=?_) ?_ (by assumption) ?_
    rotate_left
    ·(intro _ h;(try dsimp only at h);go_simp<;>with_reducible rfl)
    try simp only[Act.put,sAp,sA0,sAs]
    refine hfTake 17 (v:=?_) ?_ (by assumption) ?_
    rotate_left
    ·(intro _ h;(try dsimp only at h);go_simp<;>with_reducible rfl)
    try simp only[Act.put,sAp,sA0,sAs]
    refine wpAnyF_ready [1,10] (by kernel_rfl) (by simp) (ReadyF.consL rfl (fun K hK=>?_) (ReadyF.consL rfl (fun K hK=>?_) ReadyF.nil))
    ·go_simp
     have Be:Hid (Below wc.heap.size wc (wc.alloc (.cells #[] 9)).drew):=zh (B0.out.alloc B0.out.size _)
     have OE:Hid ((wc.alloc (.cells #[] 9)).drew.ownsRow wc.heap.size 9 1 (.slice (some ⟨wc.heap.size,0,none⟩) 0 0) 0 (([]:List ByteArray).map Value.string)):=zh ⟨rfl,Or.inr ⟨wc.heap.size,0,_,rfl,B0.out.size,heap_alloc_new wc.drew _,Nat.le_refl _,by decide,rfl,rfl⟩⟩
     have Ce:(wc.alloc (.cells #[] 9)).drew.cell? ⟨p,1,none⟩=some (.slice none 0 0):=(Be.out.cell (p:=⟨p,1,none⟩) hpl1).trans C0
     refine hK.out _ _ (fun _=>Ce) ?_
     clear hK K
     try simp only[Act.put,sAp,sA0,sAs]
     generalize (wc.alloc (.cells #[] 9)).drew=we at *
     refine wpAnyF_ready [8,10] (by kernel_rfl) (by simp) (ReadyF.consL rfl (fun K hK=>?_) (ReadyF.consL rfl (fun K hK=>?_) ReadyF.nil))
     ·(refine step_app_str we rfl (.tmp 59) (.tmp 65) 57 9 rfl 16 Tryz.underlying57 rs_str_info (by omega) wc.heap.size Be.out.size wc.heap.size 0 0 [] OE.out (T.take 0) _ rfl rfl (SR1.out.below Be.out) 0 (by rw[ltk.out,Nat.zero_add]) hib.out ?_;intro g2 c2 w2 ho2 hg2;rw[List.nil_append] at ho2;have B2:=Be.out.grown hg2 Be.out.size (fun q hq=>by injection hq with hq;have:=(OE.out.lt wc.heap.size rfl).1;omega))
      have C2:=(B2.cell (p:=⟨p,1,none⟩) hpl1).trans C0
      have B2:=zh B2
      have ho2:=zh ho2
      refine hK.out _ _ (fun _=>C2) ?_
      clear hK K
      try simp only[Act.put,sAp,sA0,sAs]
      refine hfRdy 10 (by kernel_rfl) rfl fun K hK=>?_
      go_simp
      have Bo:Hid (Below wc.heap.size wc (w2.alloc (.cells #[.string t] 9))):=zh (B2.out.alloc B2.out.size _)
      have NB:Hid (Blk (w2.alloc (.cells #[.string t] 9)) w2.heap.size 9 #[.string t]):=zh (Blk.new w2 _ _)
      have Co:(w2.alloc (.cells #[.string t] 9)).cell? ⟨p,1,none⟩=some (.slice none 0 0):=(Bo.out.cell (p:=⟨p,1,none⟩) hpl1).trans C0
      have ho4:=zh (ho2.out.alloc (.cells #[.string t] 9))
      refine hK.out _ _ (fun _=>Co) ?_
      clear hK K
      try simp only[Act.put,sAp,sA0,sAs]
      generalize w2.heap.size=nb at *
      generalize (w2.alloc (.cells #[.string t] 9))=w4 at *
      have NS:=zh (srow_one NB.out)
      refine hfRdy 11 (by kernel_rfl) rfl fun K hK=>?_
      (refine step_app_str w4 rfl (.tmp 66) (.tmp 68) 57 9 rfl 16 Tryz.underlying57 rs_str_info (by omega) wc.heap.size Bo.out.size g2 c2 0 (T.take 0) ho4.out [t] _ rfl rfl NS.out m1 hm1.out hib1.out ?_;intro g5 c5 w5 ho5 hg5;have B5:=Bo.out.grown hg5 Bo.out.size (fun q hq=>by injection hq with hq;subst hq;exact(ho4.out.lt _ rfl).1);have C5:=(B5.cell (p:=⟨p,1,none⟩) hpl1).trans C0;have B5:=zh B5;have ho5:=zh ho5)
      refine hK.out _ _ (fun _=>C5) ?_
      clear hK K
      have hS5:=C5
      try simp only[Act.put,sAp,sA0,sAs]
      refine hfRdy 18 (by kernel_rfl) rfl fun K hK=>?_
      (refine step_app_str w5 rfl (.tmp 69) (.tmp 75) 57 9 rfl 16 Tryz.underlying57 rs_str_info (by omega) wc.heap.size B5.out.size g5 c5 m1 (T.take 0++[t]) ho5.out (T.drop 0) _ rfl rfl (SR2.out.below B5.out) M (by rw[ldr.out];exact hm2.out) hM1.out ?_;intro g6 c6 w6 ho6 hg6;have B6:=B5.out.grown hg6 B5.out.size (fun q hq=>by injection hq with hq;subst hq;exact(ho5.out.lt _ rfl).1);have C6:=(B6.cell (p:=⟨p,1,none⟩) hpl1).trans C0;have F6:=(B6.frozen (p:=⟨p,1,none⟩) hpl1).trans F0;have B6:=zh B6;have ho6:=zh ho6)
      refine hK.out _ _ (fun _=>C6) ?_
      clear hK K
      have hS6:=C6
      try simp only[Act.put,sAp,sA0,sAs]
      refine hfRdy 19 (by kernel_rfl) rfl fun K hK=>?_
      go_simp
      refine hK.out _ _ (fun _=>C6) ?_
      clear hK K
      have hS7:=C6
      try simp only[Act.put,sAp,sA0,sAs]
      refine hfRdy 20 (by kernel_rfl) rfl fun K hK=>?_
      go_simp
      refine hK.out _ _ (fun _=>C6) ?_
      clear hK K
      have hS8:=C6
      try simp only[Act.put,sAp,sA0,sAs]
      refine hfRdy 21 (by kernel_rfl) rfl fun K hK=>?_
      go_simp
      refine hK.out _ _ (fun h=>absurd rfl h) ?_
      refine wpAnyF_done (by kernel_rfl) ?_ _
      clear hK K
      go_wp2_with fail
      go_meet
      exact⟨g6,c6,((hp1.out.below B6.out hpl1).set_ 1 _),ownsRow_setCell_below ho6.out (by exact hpl1) _,((Kept.refl _ wc).below B6.out (fun k h=>h.1)).setCell (by simp) _⟩
     ·go_simp
      have Bo:Hid (Below wc.heap.size wc (we.alloc (.cells #[.string t] 9))):=zh (Be.out.alloc Be.out.size _)
      have NB:Hid (Blk (we.alloc (.cells #[.string t] 9)) we.heap.size 9 #[.string t]):=zh (Blk.new we _ _)
      have Co:(we.alloc (.cells #[.string t] 9)).cell? ⟨p,1,none⟩=some (.slice none 0 0):=(Bo.out.cell (p:=⟨p,1,none⟩) hpl1).trans C0
      have OE2:=zh (OE.out.alloc (.cells #[.string t] 9))
      refine hK.out _ _ (fun _=>Co) ?_
      clear hK K
      try simp only[Act.put,sAp,sA0,sAs]
      have hne:Hid (we.heap.size≠wc.heap.size):=zh (by have:=(OE.out.lt wc.heap.size rfl).2;omega)
      generalize we.heap.size=nb at *
      generalize (we.alloc (.cells #[.string t] 9))=wo at *
      refine hfRdy 8 (by kernel_rfl) rfl fun K hK=>?_
      (refine step_app_str wo rfl (.tmp 59) (.tmp 65) 57 9 rfl 16 Tryz.underlying57 rs_str_info (by omega) wc.heap.size Bo.out.size wc.heap.size 0 0 [] OE2.out (T.take 0) _ rfl rfl (SR1.out.below Bo.out) 0 (by rw[ltk.out,Nat.zero_add]) hib.out ?_;intro g2 c2 w2 ho2 hg2;rw[List.nil_append] at ho2;have B2:=Bo.out.grown hg2 Bo.out.size (fun q hq=>by injection hq with hq;have:=(OE2.out.lt wc.heap.size rfl).1;omega))
      have C2:=(B2.cell (p:=⟨p,1,none⟩) hpl1).trans C0
      have B2:=zh B2
      have ho2:=zh ho2
      refine hK.out _ _ (fun _=>C2) ?_
      clear hK K
      try simp only[Act.put,sAp,sA0,sAs]
      have NS:=zh (srow_one (NB.out.grown hg2 (fun e=>by have e:=Option.some.inj e;exact hne.out e)))
      refine hfRdy 11 (by kernel_rfl) rfl fun K hK=>?_
      (refine step_app_str w2 rfl (.tmp 66) (.tmp 68) 57 9 rfl 16 Tryz.underlying57 rs_str_info (by omega) wc.heap.size B2.out.size g2 c2 0 (T.take 0) ho2.out [t] _ rfl rfl NS.out m1 hm1.out hib1.out ?_;intro g5 c5 w5 ho5 hg5;have B5:=B2.out.grown hg5 B2.out.size (fun q hq=>by injection hq with hq;subst hq;exact(ho2.out.lt _ rfl).1);have C5:=(B5.cell (p:=⟨p,1,none⟩) hpl1).trans C0;have B5:=zh B5;have ho5:=zh ho5)
      refine hK.out _ _ (fun _=>C5) ?_
      clear hK K
      have hS5:=C5
      try simp only[Act.put,sAp,sA0,sAs]
      refine hfRdy 18 (by kernel_rfl) rfl fun K hK=>?_
      (refine step_app_str w5 rfl (.tmp 69) (.tmp 75) 57 9 rfl 16 Tryz.underlying57 rs_str_info (by omega) wc.heap.size B5.out.size g5 c5 m1 (T.take 0++[t]) ho5.out (T.drop 0) _ rfl rfl (SR2.out.below B5.out) M (by rw[ldr.out];exact hm2.out) hM1.out ?_;intro g6 c6 w6 ho6 hg6;have B6:=B5.out.grown hg6 B5.out.size (fun q hq=>by injection hq with hq;subst hq;exact(ho5.out.lt _ rfl).1);have C6:=(B6.cell (p:=⟨p,1,none⟩) hpl1).trans C0;have F6:=(B6.frozen (p:=⟨p,1,none⟩) hpl1).trans F0;have B6:=zh B6;have ho6:=zh ho6)
      refine hK.out _ _ (fun _=>C6) ?_
      clear hK K
      have hS6:=C6
      try simp only[Act.put,sAp,sA0,sAs]
      refine hfRdy 19 (by kernel_rfl) rfl fun K hK=>?_
      go_simp
      refine hK.out _ _ (fun _=>C6) ?_
      clear hK K
      have hS7:=C6
      try simp only[Act.put,sAp,sA0,sAs]
      refine hfRdy 20 (by kernel_rfl) rfl fun K hK=>?_
      go_simp
      refine hK.out _ _ (fun _=>C6) ?_
      clear hK K
      have hS8:=C6
      try simp only[Act.put,sAp,sA0,sAs]
      refine hfRdy 21 (by kernel_rfl) rfl fun K hK=>?_
      go_simp
      refine hK.out _ _ (fun h=>absurd rfl h) ?_
      refine wpAnyF_done (by kernel_rfl) ?_ _
      clear hK K
      go_wp2_with fail
      go_meet
      exact⟨g6,c6,((hp1.out.below B6.out hpl1).set_ 1 _),ownsRow_setCell_below ho6.out (by exact hpl1) _,((Kept.refl _ wc).below B6.out (fun k h=>h.1)).setCell (by simp) _⟩
    ·go_simp
     have Bo:Hid (Below wc.heap.size wc (wc.alloc (.cells #[.string t] 9)).drew):=zh (B0.out.alloc B0.out.size _)
     have NB:Hid (Blk (wc.alloc (.cells #[.string t] 9)).drew wc.heap.size 9 #[.string t]):=zh (Blk.new wc.drew _ _)
     have Co:(wc.alloc (.cells #[.string t] 9)).drew.cell? ⟨p,1,none⟩=some (.slice none 0 0):=(Bo.out.cell (p:=⟨p,1,none⟩) hpl1).trans C0
     refine hK.out _ _ (fun _=>Co) ?_
     clear hK K
     try simp only[Act.put,sAp,sA0,sAs]
     generalize (wc.alloc (.cells #[.string t] 9)).drew=wo at *
     refine hfRdy 1 (by kernel_rfl) rfl fun K hK=>?_
     go_simp
     have Be:Hid (Below wc.heap.size wc (wo.alloc (.cells #[] 9))):=zh (Bo.out.alloc Bo.out.size _)
     have OE:Hid ((wo.alloc (.cells #[] 9)).ownsRow wc.heap.size 9 1 (.slice (some ⟨wo.heap.size,0,none⟩) 0 0) 0 (([]:List ByteArray).map Value.string)):=zh ⟨rfl,Or.inr ⟨wo.heap.size,0,_,rfl,Bo.out.size,heap_alloc_new wo _,Nat.le_refl _,by decide,rfl,rfl⟩⟩
     have Ce:(wo.alloc (.cells #[] 9)).cell? ⟨p,1,none⟩=some (.slice none 0 0):=(Be.out.cell (p:=⟨p,1,none⟩) hpl1).trans C0
     have NB2:=zh (NB.out.alloc (.cells #[] 9))
     have hne:Hid (wc.heap.size≠wo.heap.size):=zh (by have:=NB.out.lt;omega)
     refine hK.out _ _ (fun _=>Ce) ?_
     clear hK K
     try simp only[Act.put,sAp,sA0,sAs]
     generalize wo.heap.size=ge at *
     generalize (wo.alloc (.cells #[] 9))=we at *
     refine hfRdy 8 (by kernel_rfl) rfl fun K hK=>?_
     (refine step_app_str we rfl (.tmp 59) (.tmp 65) 57 9 rfl 16 Tryz.underlying57 rs_str_info (by omega) wc.heap.size Be.out.size ge 0 0 [] OE.out (T.take 0) _ rfl rfl (SR1.out.below Be.out) 0 (by rw[ltk.out,Nat.zero_add]) hib.out ?_;intro g2 c2 w2 ho2 hg2;rw[List.nil_append] at ho2;have B2:=Be.out.grown hg2 Be.out.size (fun q hq=>by injection hq with hq;have:=(OE.out.lt ge rfl).1;omega))
     have C2:=(B2.cell (p:=⟨p,1,none⟩) hpl1).trans C0
     have B2:=zh B2
     have ho2:=zh ho2
     refine hK.out _ _ (fun _=>C2) ?_
     clear hK K
     try simp only[Act.put,sAp,sA0,sAs]
     have NS:=zh (srow_one (NB2.out.grown hg2 (fun e=>by have e:=Option.some.inj e;exact hne.out e)))
     refine hfRdy 11 (by kernel_rfl) rfl fun K hK=>?_
     (refine step_app_str w2 rfl (.tmp 66) (.tmp 68) 57 9 rfl 16 Tryz.underlying57 rs_str_info (by omega) wc.heap.size B2.out.size g2 c2 0 (T.take 0) ho2.out [t] _ rfl rfl NS.out m1 hm1.out hib1.out ?_;intro g5 c5 w5 ho5 hg5;have B5:=B2.out.grown hg5 B2.out.size (fun q hq=>by injection hq with hq;subst hq;exact(ho2.out.lt _ rfl).1);have C5:=(B5.cell (p:=⟨p,1,none⟩) hpl1).trans C0;have B5:=zh B5;have ho5:=zh ho5)
     refine hK.out _ _ (fun _=>C5) ?_
     clear hK K
     have hS5:=C5
     try simp only[Act.put,sAp,sA0,sAs]
     refine hfRdy 18 (by kernel_rfl) rfl fun K hK=>?_
     (refine step_app_str w5 rfl (.tmp 69) (.tmp 75) 57 9 rfl 16 Tryz.underlying57 rs_str_info (by omega) wc.heap.size B5.out.size g5 c5 m1 (T.take 0++[t]) ho5.out (T.drop 0) _ rfl rfl (SR2.out.below B5.out) M (by rw[ldr.out];exact hm2.out) hM1.out ?_;intro g6 c6 w6 ho6 hg6;have B6:=B5.out.grown hg6 B5.out.size (fun q hq=>by injection hq with hq;subst hq;exact(ho5.out.lt _ rfl).1);have C6:=(B6.cell (p:=⟨p,1,none⟩) hpl1).trans C0;have F6:=(B6.frozen (p:=⟨p,1,none⟩) hpl1).trans F0;have B6:=zh B6;have ho6:=zh ho6)
     refine hK.out _ _ (fun _=>C6) ?_
     clear hK K
     have hS6:=C6
     try simp only[Act.put,sAp,sA0,sAs]
     refine hfRdy 19 (by kernel_rfl) rfl fun K hK=>?_
     go_simp
     refine hK.out _ _ (fun _=>C6) ?_
     clear hK K
     have hS7:=C6
     try simp only[Act.put,sAp,sA0,sAs]
     refine hfRdy 20 (by kernel_rfl) rfl fun K hK=>?_
     go_simp
     refine hK.out _ _ (fun _=>C6) ?_
     clear hK K
     have hS8:=C6
     try simp only[Act.put,sAp,sA0,sAs]
     refine hfRdy 21 (by kernel_rfl) rfl fun K hK=>?_
     go_simp
     refine hK.out _ _ (fun h=>absurd rfl h) ?_
     refine wpAnyF_done (by kernel_rfl) ?_ _
     clear hK K
     go_wp2_with fail
     go_meet
     exact⟨g6,c6,((hp1.out.below B6.out hpl1).set_ 1 _),ownsRow_setCell_below ho6.out (by exact hpl1) _,((Kept.refl _ wc).below B6.out (fun k h=>h.1)).setCell (by simp) _⟩
   ·have b1:(i:Int)≤k1:=by omega
    have b2:(i:Int)≤T.length:=by omega
    by_cases hc:k1=i
    ·obtain rfl:k1=i:=hc
     have SR1:Hid (SRow wc (.slice (some ⟨g1,0,none⟩) k1 k1) (T.take k1)):=zh (srow_take ho1.out k1 (by omega) (by omega))
     have SR2:Hid (SRow wc (.slice (some ⟨g1,0,none⟩) 0 0) (T.drop k1)):=zh (by have e:T.drop k1=[]:=List.drop_eq_nil_of_le (by omega);rw[e];exact srow_nothing)
     refine wp_region_F (fun w'=>w'.cell? ⟨p,1,none⟩=some (.slice (some ⟨g1,0,none⟩) T.length k1)) 21 (by kernel_rfl) ?_
     have hS0:wc.drew.cell? ⟨p,1,none⟩=some (.slice (some ⟨g1,0,none⟩) T.length k1):=C0
     have B0:Hid (Below wc.heap.size wc wc.drew):=zh (Below.refl _ _).drew
     refine hfTake 0 (v:=?_) ?_ (by assumption) ?_
     rotate_left
     ·(intro _ h;(try dsimp only at h);go_simp<;>with_reducible rfl)
     try simp only[Act.put,sAp,sA0,sAs]
     refine hfTake 2 (v:=?_) ?_ (by assumption) ?_
     rotate_left
     ·(intro _ h;(try dsimp only at h);go_simp<;>with_reducible rfl)
     try simp only[Act.put,sAp,sA0,sAs]
     refine hfTake 3 (v:=?_) ?_ (by assumption) ?_
     rotate_left
     ·(intro _ h;(try dsimp only at h);go_simp<;>with_reducible rfl)
     try simp only[Act.put,sAp,sA0,sAs]
     refine hfTake 4 (v:=?_) ?_ (by assumption) ?_
     rotate_left
     ·(intro _ h;(try dsimp only at h);go_simp<;>with_reducible rfl)
     try simp only[Act.put,sAp,sA0,sAs]
     refine hfTake 5 (v:=?_) ?_ (by assumption) ?_
     rotate_left
     ·(intro _ h;(try dsimp only at h);go_simp<;>with_reducible rfl)
     try simp only[Act.put,sAp,sA0,sAs]
     refine hfTake 6 (v:=?_) ?_ (by assumption) ?_
     rotate_left
     ·(intro _ h;(try dsimp only at h);go_simp<;>with_reducible rfl)
     try simp only[Act.put,sAp,sA0,sAs]
     refine hfTake 7 (v:=?_) ?_ (by assumption) ?_
     rotate_left
     ·(intro _ h;(try dsimp only at h);go_simp<;>with_reducible rfl)
     try simp only[Act.put,sAp,sA0,sAs]
     refine hfTake 9 (v:=?_) ?_ (by assumption) ?_
     rotate_left
     ·(intro _ h;(try dsimp only at h);go_simp<;>with_reducible rfl)
     try simp only[Act.put,sAp,sA0,sAs]
     refine hfTake 12 (v:=?_) ?_ (by assumption) ?_
     rotate_left
     ·(intro _ h;(try dsimp only at h);go_simp<;>with_reducible rfl)
     try simp only[Act.put,sAp,sA0,sAs]
     refine hfTake 13 (v:=?_) ?_ (by assumption) ?_
     rotate_left
     ·(intro _ h;(try dsimp only at h);go_simp<;>with_reducible rfl)
     try simp only[Act.put,sAp,sA0,sAs]
     refine hfTake 14 (v:=?_) ?_ (by assumption) ?_
     rotate_left
     ·(intro _ h;(try dsimp only at h);go_simp<;>with_reducible rfl)
     try simp only[Act.put,sAp,sA0,sAs]
     refine hfTake 15 (v:=?_) ?_ (by assumption) ?_
     rotate_left
     ·(intro _ h;(try dsimp only at h);go_simp<;>with_reducible rfl)
     try simp only[Act.put,sAp,sA0,sAs]
     refine hfTake 16 (v:=?_) ?_ (by assumption) ?_
     rotate_left
     ·(intro _ h;(try dsimp only at h);go_simp<;>with_reducible rfl)
     try simp only[Act.put,sAp,sA0,sAs]
     refine hfTake 17 (v:=?_) ?_ (by assumption) ?_
     rotate_left
     ·(intro _ h;(try dsimp only at h);go_simp<;>with_reducible rfl)
     try simp only[Act.put,sAp,sA0,sAs]
     refine wpAnyF_ready [1,10] (by kernel_rfl) (by simp) (ReadyF.consL rfl (fun K hK=>?_) (ReadyF.consL rfl (fun K hK=>?_) ReadyF.nil))
     ·go_simp
      have Be:Hid (Below wc.heap.size wc (wc.alloc (.cells #[] 9)).drew):=zh (B0.out.alloc B0.out.size _)
      have OE:Hid ((wc.alloc (.cells #[] 9)).drew.ownsRow wc.heap.size 9 1 (.slice (some ⟨wc.heap.size,0,none⟩) 0 0) 0 (([]:List ByteArray).map Value.string)):=zh ⟨rfl,Or.inr ⟨wc.heap.size,0,_,rfl,B0.out.size,heap_alloc_new wc.drew _,Nat.le_refl _,by decide,rfl,rfl⟩⟩
      have Ce:(wc.alloc (.cells #[] 9)).drew.cell? ⟨p,1,none⟩=some (.slice (some ⟨g1,0,none⟩) T.length k1):=(Be.out.cell (p:=⟨p,1,none⟩) hpl1).trans C0
      refine hK.out _ _ (fun _=>Ce) ?_
      clear hK K
      try simp only[Act.put,sAp,sA0,sAs]
      generalize (wc.alloc (.cells #[] 9)).drew=we at *
      refine wpAnyF_ready [8,10] (by kernel_rfl) (by simp) (ReadyF.consL rfl (fun K hK=>?_) (ReadyF.consL rfl (fun K hK=>?_) ReadyF.nil))
      ·(refine step_app_str we rfl (.tmp 59) (.tmp 65) 57 9 rfl 16 Tryz.underlying57 rs_str_info (by omega) wc.heap.size Be.out.size wc.heap.size 0 0 [] OE.out (T.take k1) _ rfl rfl (SR1.out.below Be.out) k1 (by rw[ltk.out,Nat.zero_add]) hib.out ?_;intro g2 c2 w2 ho2 hg2;rw[List.nil_append] at ho2;have B2:=Be.out.grown hg2 Be.out.size (fun q hq=>by injection hq with hq;have:=(OE.out.lt wc.heap.size rfl).1;omega))
       have C2:=(B2.cell (p:=⟨p,1,none⟩) hpl1).trans C0
       have B2:=zh B2
       have ho2:=zh ho2
       refine hK.out _ _ (fun _=>C2) ?_
       clear hK K
       try simp only[Act.put,sAp,sA0,sAs]
       refine hfRdy 10 (by kernel_rfl) rfl fun K hK=>?_
       go_simp
       have Bo:Hid (Below wc.heap.size wc (w2.alloc (.cells #[.string t] 9))):=zh (B2.out.alloc B2.out.size _)
       have NB:Hid (Blk (w2.alloc (.cells #[.string t] 9)) w2.heap.size 9 #[.string t]):=zh (Blk.new w2 _ _)
       have Co:(w2.alloc (.cells #[.string t] 9)).cell? ⟨p,1,none⟩=some (.slice (some ⟨g1,0,none⟩) T.length k1):=(Bo.out.cell (p:=⟨p,1,none⟩) hpl1).trans C0
       have ho4:=zh (ho2.out.alloc (.cells #[.string t] 9))
       refine hK.out _ _ (fun _=>Co) ?_
       clear hK K
       try simp only[Act.put,sAp,sA0,sAs]
       generalize w2.heap.size=nb at *
       generalize (w2.alloc (.cells #[.string t] 9))=w4 at *
       have NS:=zh (srow_one NB.out)
       refine hfRdy 11 (by kernel_rfl) rfl fun K hK=>?_
       (refine step_app_str w4 rfl (.tmp 66) (.tmp 68) 57 9 rfl 16 Tryz.underlying57 rs_str_info (by omega) wc.heap.size Bo.out.size g2 c2 k1 (T.take k1) ho4.out [t] _ rfl rfl NS.out m1 hm1.out hib1.out ?_;intro g5 c5 w5 ho5 hg5;have B5:=Bo.out.grown hg5 Bo.out.size (fun q hq=>by injection hq with hq;subst hq;exact(ho4.out.lt _ rfl).1);have C5:=(B5.cell (p:=⟨p,1,none⟩) hpl1).trans C0;have B5:=zh B5;have ho5:=zh ho5)
       refine hK.out _ _ (fun _=>C5) ?_
       clear hK K
       have hS5:=C5
       try simp only[Act.put,sAp,sA0,sAs]
       refine hfRdy 18 (by kernel_rfl) rfl fun K hK=>?_
       (refine step_app_str w5 rfl (.tmp 69) (.tmp 75) 57 9 rfl 16 Tryz.underlying57 rs_str_info (by omega) wc.heap.size B5.out.size g5 c5 m1 (T.take k1++[t]) ho5.out (T.drop k1) _ rfl rfl (SR2.out.below B5.out) M (by rw[ldr.out];exact hm2.out) hM1.out ?_;intro g6 c6 w6 ho6 hg6;have B6:=B5.out.grown hg6 B5.out.size (fun q hq=>by injection hq with hq;subst hq;exact(ho5.out.lt _ rfl).1);have C6:=(B6.cell (p:=⟨p,1,none⟩) hpl1).trans C0;have F6:=(B6.frozen (p:=⟨p,1,none⟩) hpl1).trans F0;have B6:=zh B6;have ho6:=zh ho6)
       refine hK.out _ _ (fun _=>C6) ?_
       clear hK K
       have hS6:=C6
       try simp only[Act.put,sAp,sA0,sAs]
       refine hfRdy 19 (by kernel_rfl) rfl fun K hK=>?_
       go_simp
       refine hK.out _ _ (fun _=>C6) ?_
       clear hK K
       have hS7:=C6
       try simp only[Act.put,sAp,sA0,sAs]
       refine hfRdy 20 (by kernel_rfl) rfl fun K hK=>?_
       go_simp
       refine hK.out _ _ (fun _=>C6) ?_
       clear hK K
       have hS8:=C6
       try simp only[Act.put,sAp,sA0,sAs]
       refine hfRdy 21 (by kernel_rfl) rfl fun K hK=>?_
       go_simp
       refine hK.out _ _ (fun h=>absurd rfl h) ?_
       refine wpAnyF_done (by kernel_rfl) ?_ _
       clear hK K
       go_wp2_with fail
       go_meet
       exact⟨g6,c6,((hp1.out.below B6.out hpl1).set_ 1 _),ownsRow_setCell_below ho6.out (by exact hpl1) _,((Kept.refl _ wc).below B6.out (fun k h=>h.1)).setCell (by simp) _⟩
      ·go_simp
       have Bo:Hid (Below wc.heap.size wc (we.alloc (.cells #[.string t] 9))):=zh (Be.out.alloc Be.out.size _)
       have NB:Hid (Blk (we.alloc (.cells #[.string t] 9)) we.heap.size 9 #[.string t]):=zh (Blk.new we _ _)
       have Co:(we.alloc (.cells #[.string t] 9)).cell? ⟨p,1,none⟩=some (.slice (some ⟨g1,0,none⟩) T.length k1):=(Bo.out.cell (p:=⟨p,1,none⟩) hpl1).trans C0
       have OE2:=zh (OE.out.alloc (.cells #[.string t] 9))
       refine hK.out _ _ (fun _=>Co) ?_
       clear hK K
       try simp only[Act.put,sAp,sA0,sAs]
       have hne:Hid (we.heap.size≠wc.heap.size):=zh (by have:=(OE.out.lt wc.heap.size rfl).2;omega)
       generalize we.heap.size=nb at *
       generalize (we.alloc (.cells #[.string t] 9))=wo at *
       refine hfRdy 8 (by kernel_rfl) rfl fun K hK=>?_
       (refine step_app_str wo rfl (.tmp 59) (.tmp 65) 57 9 rfl 16 Tryz.underlying57 rs_str_info (by omega) wc.heap.size Bo.out.size wc.heap.size 0 0 [] OE2.out (T.take k1) _ rfl rfl (SR1.out.below Bo.out) k1 (by rw[ltk.out,Nat.zero_add]) hib.out ?_;intro g2 c2 w2 ho2 hg2;rw[List.nil_append] at ho2;have B2:=Bo.out.grown hg2 Bo.out.size (fun q hq=>by injection hq with hq;have:=(OE2.out.lt wc.heap.size rfl).1;omega))
       have C2:=(B2.cell (p:=⟨p,1,none⟩) hpl1).trans C0
       have B2:=zh B2
       have ho2:=zh ho2
       refine hK.out _ _ (fun _=>C2) ?_
       clear hK K
       try simp only[Act.put,sAp,sA0,sAs]
       have NS:=zh (srow_one (NB.out.grown hg2 (fun e=>by have e:=Option.some.inj e;exact hne.out e)))
       refine hfRdy 11 (by kernel_rfl) rfl fun K hK=>?_
       (refine step_app_str w2 rfl (.tmp 66) (.tmp 68) 57 9 rfl 16 Tryz.underlying57 rs_str_info (by omega) wc.heap.size B2.out.size g2 c2 k1 (T.take k1) ho2.out [t] _ rfl rfl NS.out m1 hm1.out hib1.out ?_;intro g5 c5 w5 ho5 hg5;have B5:=B2.out.grown hg5 B2.out.size (fun q hq=>by injection hq with hq;subst hq;exact(ho2.out.lt _ rfl).1);have C5:=(B5.cell (p:=⟨p,1,none⟩) hpl1).trans C0;have B5:=zh B5;have ho5:=zh ho5)
       refine hK.out _ _ (fun _=>C5) ?_
       clear hK K
       have hS5:=C5
       try simp only[Act.put,sAp,sA0,sAs]
       refine hfRdy 18 (by kernel_rfl) rfl fun K hK=>?_
       (refine step_app_str w5 rfl (.tmp 69) (.tmp 75) 57 9 rfl 16 Tryz.underlying57 rs_str_info (by omega) wc.heap.size B5.out.size g5 c5 m1 (T.take k1++[t]) ho5.out (T.drop k1) _ rfl rfl (SR2.out.below B5.out) M (by rw[ldr.out];exact hm2.out) hM1.out ?_;intro g6 c6 w6 ho6 hg6;have B6:=B5.out.grown hg6 B5.out.size (fun q hq=>by injection hq with hq;subst hq;exact(ho5.out.lt _ rfl).1);have C6:=(B6.cell (p:=⟨p,1,none⟩) hpl1).trans C0;have F6:=(B6.frozen (p:=⟨p,1,none⟩) hpl1).trans F0;have B6:=zh B6;have ho6:=zh ho6)
       refine hK.out _ _ (fun _=>C6) ?_
       clear hK K
       have hS6:=C6
       try simp only[Act.put,sAp,sA0,sAs]
       refine hfRdy 19 (by kernel_rfl) rfl fun K hK=>?_
       go_simp
       refine hK.out _ _ (fun _=>C6) ?_
       clear hK K
       have hS7:=C6
       try simp only[Act.put,sAp,sA0,sAs]
       refine hfRdy 20 (by kernel_rfl) rfl fun K hK=>?_
       go_simp
       refine hK.out _ _ (fun _=>C6) ?_
       clear hK K
       have hS8:=C6
       try simp only[Act.put,sAp,sA0,sAs]
       refine hfRdy 21 (by kernel_rfl) rfl fun K hK=>?_
       go_simp
       refine hK.out _ _ (fun h=>absurd rfl h) ?_
       refine wpAnyF_done (by kernel_rfl) ?_ _
       clear hK K
       go_wp2_with fail
       go_meet
       exact⟨g6,c6,((hp1.out.below B6.out hpl1).set_ 1 _),ownsRow_setCell_below ho6.out (by exact hpl1) _,((Kept.refl _ wc).below B6.out (fun k h=>h.1)).setCell (by simp) _⟩
     ·go_simp
      have Bo:Hid (Below wc.heap.size wc (wc.alloc (.cells #[.string t] 9)).drew):=zh (B0.out.alloc B0.out.size _)
      have NB:Hid (Blk (wc.alloc (.cells #[.string t] 9)).drew wc.heap.size 9 #[.string t]):=zh (Blk.new wc.drew _ _)
      have Co:(wc.alloc (.cells #[.string t] 9)).drew.cell? ⟨p,1,none⟩=some (.slice (some ⟨g1,0,none⟩) T.length k1):=(Bo.out.cell (p:=⟨p,1,none⟩) hpl1).trans C0
      refine hK.out _ _ (fun _=>Co) ?_
      clear hK K
      try simp only[Act.put,sAp,sA0,sAs]
      generalize (wc.alloc (.cells #[.string t] 9)).drew=wo at *
      refine hfRdy 1 (by kernel_rfl) rfl fun K hK=>?_
      go_simp
      have Be:Hid (Below wc.heap.size wc (wo.alloc (.cells #[] 9))):=zh (Bo.out.alloc Bo.out.size _)
      have OE:Hid ((wo.alloc (.cells #[] 9)).ownsRow wc.heap.size 9 1 (.slice (some ⟨wo.heap.size,0,none⟩) 0 0) 0 (([]:List ByteArray).map Value.string)):=zh ⟨rfl,Or.inr ⟨wo.heap.size,0,_,rfl,Bo.out.size,heap_alloc_new wo _,Nat.le_refl _,by decide,rfl,rfl⟩⟩
      have Ce:(wo.alloc (.cells #[] 9)).cell? ⟨p,1,none⟩=some (.slice (some ⟨g1,0,none⟩) T.length k1):=(Be.out.cell (p:=⟨p,1,none⟩) hpl1).trans C0
      have NB2:=zh (NB.out.alloc (.cells #[] 9))
      have hne:Hid (wc.heap.size≠wo.heap.size):=zh (by have:=NB.out.lt;omega)
      refine hK.out _ _ (fun _=>Ce) ?_
      clear hK K
      try simp only[Act.put,sAp,sA0,sAs]
      generalize wo.heap.size=ge at *
      generalize (wo.alloc (.cells #[] 9))=we at *
      refine hfRdy 8 (by kernel_rfl) rfl fun K hK=>?_
      (refine step_app_str we rfl (.tmp 59) (.tmp 65) 57 9 rfl 16 Tryz.underlying57 rs_str_info (by omega) wc.heap.size Be.out.size ge 0 0 [] OE.out (T.take k1) _ rfl rfl (SR1.out.below Be.out) k1 (by rw[ltk.out,Nat.zero_add]) hib.out ?_;intro g2 c2 w2 ho2 hg2;rw[List.nil_append] at ho2;have B2:=Be.out.grown hg2 Be.out.size (fun q hq=>by injection hq with hq;have:=(OE.out.lt ge rfl).1;omega))
      have C2:=(B2.cell (p:=⟨p,1,none⟩) hpl1).trans C0
      have B2:=zh B2
      have ho2:=zh ho2
      refine hK.out _ _ (fun _=>C2) ?_
      clear hK K
      try simp only[Act.put,sAp,sA0,sAs]
      have NS:=zh (srow_one (NB2.out.grown hg2 (fun e=>by have e:=Option.some.inj e;exact hne.out e)))
      refine hfRdy 11 (by kernel_rfl) rfl fun K hK=>?_
      (refine step_app_str w2 rfl (.tmp 66) (.tmp 68) 57 9 rfl 16 Tryz.underlying57 rs_str_info (by omega) wc.heap.size B2.out.size g2 c2 k1 (T.take k1) ho2.out [t] _ rfl rfl NS.out m1 hm1.out hib1.out ?_;intro g5 c5 w5 ho5 hg5;have B5:=B2.out.grown hg5 B2.out.size (fun q hq=>by injection hq with hq;subst hq;exact(ho2.out.lt _ rfl).1);have C5:=(B5.cell (p:=⟨p,1,none⟩) hpl1).trans C0;have B5:=zh B5;have ho5:=zh ho5)
      refine hK.out _ _ (fun _=>C5) ?_
      clear hK K
      have hS5:=C5
      try simp only[Act.put,sAp,sA0,sAs]
      refine hfRdy 18 (by kernel_rfl) rfl fun K hK=>?_
      (refine step_app_str w5 rfl (.tmp 69) (.tmp 75) 57 9 rfl 16 Tryz.underlying57 rs_str_info (by omega) wc.heap.size B5.out.size g5 c5 m1 (T.take k1++[t]) ho5.out (T.drop k1) _ rfl rfl (SR2.out.below B5.out) M (by rw[ldr.out];exact hm2.out) hM1.out ?_;intro g6 c6 w6 ho6 hg6;have B6:=B5.out.grown hg6 B5.out.size (fun q hq=>by injection hq with hq;subst hq;exact(ho5.out.lt _ rfl).1);have C6:=(B6.cell (p:=⟨p,1,none⟩) hpl1).trans C0;have F6:=(B6.frozen (p:=⟨p,1,none⟩) hpl1).trans F0;have B6:=zh B6;have ho6:=zh ho6)
      refine hK.out _ _ (fun _=>C6) ?_
      clear hK K
      have hS6:=C6
      try simp only[Act.put,sAp,sA0,sAs]
      refine hfRdy 19 (by kernel_rfl) rfl fun K hK=>?_
      go_simp
      refine hK.out _ _ (fun _=>C6) ?_
      clear hK K
      have hS7:=C6
      try simp only[Act.put,sAp,sA0,sAs]
      refine hfRdy 20 (by kernel_rfl) rfl fun K hK=>?_
      go_simp
      refine hK.out _ _ (fun _=>C6) ?_
      clear hK K
      have hS8:=C6
      try simp only[Act.put,sAp,sA0,sAs]
      refine hfRdy 21 (by kernel_rfl) rfl fun K hK=>?_
      go_simp
      refine hK.out _ _ (fun h=>absurd rfl h) ?_
      refine wpAnyF_done (by kernel_rfl) ?_ _
      clear hK K
      go_wp2_with fail
      go_meet
      exact⟨g6,c6,((hp1.out.below B6.out hpl1).set_ 1 _),ownsRow_setCell_below ho6.out (by exact hpl1) _,((Kept.refl _ wc).below B6.out (fun k h=>h.1)).setCell (by simp) _⟩
    ·have hne0:¬ k1=i:=hc
     have SR1:Hid (SRow wc (.slice (some ⟨g1,0,none⟩) i k1) (T.take i)):=zh (srow_take ho1.out i (by omega) (by omega))
     have SR2:Hid (SRow wc (.slice (some ⟨g1,i,none⟩) (T.length-i) (k1-i)) (T.drop i)):=zh (srow_drop ho1.out i (by omega) (by omega))
     refine wp_region_F (fun w'=>w'.cell? ⟨p,1,none⟩=some (.slice (some ⟨g1,0,none⟩) T.length k1)) 21 (by kernel_rfl) ?_
     have hS0:wc.drew.cell? ⟨p,1,none⟩=some (.slice (some ⟨g1,0,none⟩) T.length k1):=C0
     have B0:Hid (Below wc.heap.size wc wc.drew):=zh (Below.refl _ _).drew
     refine hfTake 0 (v:=?_) ?_ (by assumption) ?_
     rotate_left
     ·(intro _ h;(try dsimp only at h);go_simp<;>with_reducible rfl)
     try simp only[Act.put,sAp,sA0,sAs]
     refine hfTake 2 (v:=?_) ?_ (by assumption) ?_
     rotate_left
     ·(intro _ h;(try dsimp only at h);go_simp<;>with_reducible rfl)
     try simp only[Act.put,sAp,sA0,sAs]
     refine hfTake 3 (v:=?_) ?_ (by assumption) ?_
     rotate_left
     ·(intro _ h;(try dsimp only at h);go_simp<;>with_reducible rfl)
     try simp only[Act.put,sAp,sA0,sAs]
     refine hfTake 4 (v:=?_) ?_ (by assumption) ?_
     rotate_left
     ·(intro _ h;(try dsimp only at h);go_simp<;>with_reducible rfl)
     try simp only[Act.put,sAp,sA0,sAs]
     refine hfTake 5 (v:=?_) ?_ (by assumption) ?_
     rotate_left
     ·(intro _ h;(try dsimp only at h);go_simp<;>with_reducible rfl)
     try simp only[Act.put,sAp,sA0,sAs]
     refine hfTake 6 (v:=?_) ?_ (by assumption) ?_
     rotate_left
     ·(intro _ h;(try dsimp only at h);go_simp<;>with_reducible rfl)
     try simp only[Act.put,sAp,sA0,sAs]
     refine hfTake 7 (v:=?_) ?_ (by assumption) ?_
     rotate_left
     ·(intro _ h;(try dsimp only at h);go_simp<;>with_reducible rfl)
     try simp only[Act.put,sAp,sA0,sAs]
     refine hfTake 9 (v:=?_) ?_ (by assumption) ?_
     rotate_left
     ·(intro _ h;(try dsimp only at h);go_simp<;>with_reducible rfl)
     try simp only[Act.put,sAp,sA0,sAs]
     refine hfTake 12 (v:=?_) ?_ (by assumption) ?_
     rotate_left
     ·(intro _ h;(try dsimp only at h);go_simp<;>with_reducible rfl)
     try simp only[Act.put,sAp,sA0,sAs]
     refine hfTake 13 (v:=?_) ?_ (by assumption) ?_
     rotate_left
     ·(intro _ h;(try dsimp only at h);go_simp<;>with_reducible rfl)
     try simp only[Act.put,sAp,sA0,sAs]
     refine hfTake 14 (v:=?_) ?_ (by assumption) ?_
     rotate_left
     ·(intro _ h;(try dsimp only at h);go_simp<;>with_reducible rfl)
     try simp only[Act.put,sAp,sA0,sAs]
     refine hfTake 15 (v:=?_) ?_ (by assumption) ?_
     rotate_left
     ·(intro _ h;(try dsimp only at h);go_simp<;>with_reducible rfl)
     try simp only[Act.put,sAp,sA0,sAs]
     refine hfTake 16 (v:=?_) ?_ (by assumption) ?_
     rotate_left
     ·(intro _ h;(try dsimp only at h);go_simp<;>with_reducible rfl)
     try simp only[Act.put,sAp,sA0,sAs]
     refine hfTake 17 (v:=?_) ?_ (by assumption) ?_
     rotate_left
     ·(intro _ h;(try dsimp only at h);go_simp<;>with_reducible rfl)
     try simp only[Act.put,sAp,sA0,sAs]
     refine wpAnyF_ready [1,10] (by kernel_rfl) (by simp) (ReadyF.consL rfl (fun K hK=>?_) (ReadyF.consL rfl (fun K hK=>?_) ReadyF.nil))
     ·go_simp
      have Be:Hid (Below wc.heap.size wc (wc.alloc (.cells #[] 9)).drew):=zh (B0.out.alloc B0.out.size _)
      have OE:Hid ((wc.alloc (.cells #[] 9)).drew.ownsRow wc.heap.size 9 1 (.slice (some ⟨wc.heap.size,0,none⟩) 0 0) 0 (([]:List ByteArray).map Value.string)):=zh ⟨rfl,Or.inr ⟨wc.heap.size,0,_,rfl,B0.out.size,heap_alloc_new wc.drew _,Nat.le_refl _,by decide,rfl,rfl⟩⟩
      have Ce:(wc.alloc (.cells #[] 9)).drew.cell? ⟨p,1,none⟩=some (.slice (some ⟨g1,0,none⟩) T.length k1):=(Be.out.cell (p:=⟨p,1,none⟩) hpl1).trans C0
      refine hK.out _ _ (fun _=>Ce) ?_
      clear hK K
      try simp only[Act.put,sAp,sA0,sAs]
      generalize (wc.alloc (.cells #[] 9)).drew=we at *
      refine wpAnyF_ready [8,10] (by kernel_rfl) (by simp) (ReadyF.consL rfl (fun K hK=>?_) (ReadyF.consL rfl (fun K hK=>?_) ReadyF.nil))
      ·(refine step_app_str we rfl (.tmp 59) (.tmp 65) 57 9 rfl 16 Tryz.underlying57 rs_str_info (by omega) wc.heap.size Be.out.size wc.heap.size 0 0 [] OE.out (T.take i) _ rfl rfl (SR1.out.below Be.out) i (by rw[ltk.out,Nat.zero_add]) hib.out ?_;intro g2 c2 w2 ho2 hg2;rw[List.nil_append] at ho2;have B2:=Be.out.grown hg2 Be.out.size (fun q hq=>by injection hq with hq;have:=(OE.out.lt wc.heap.size rfl).1;omega))
       have C2:=(B2.cell (p:=⟨p,1,none⟩) hpl1).trans C0
       have B2:=zh B2
       have ho2:=zh ho2
       refine hK.out _ _ (fun _=>C2) ?_
       clear hK K
       try simp only[Act.put,sAp,sA0,sAs]
       refine hfRdy 10 (by kernel_rfl) rfl fun K hK=>?_
       go_simp
       have Bo:Hid (Below wc.heap.size wc (w2.alloc (.cells #[.string t] 9))):=zh (B2.out.alloc B2.out.size _)
       have NB:Hid (Blk (w2.alloc (.cells #[.string t] 9)) w2.heap.size 9 #[.string t]):=zh (Blk.new w2 _ _)
       have Co:(w2.alloc (.cells #[.string t] 9)).cell? ⟨p,1,none⟩=some (.slice (some ⟨g1,0,none⟩) T.length k1):=(Bo.out.cell (p:=⟨p,1,none⟩) hpl1).trans C0
       have ho4:=zh (ho2.out.alloc (.cells #[.string t] 9))
       refine hK.out _ _ (fun _=>Co) ?_
       clear hK K
       try simp only[Act.put,sAp,sA0,sAs]
       generalize w2.heap.size=nb at *
       generalize (w2.alloc (.cells #[.string t] 9))=w4 at *
       have NS:=zh (srow_one NB.out)
       refine hfRdy 11 (by kernel_rfl) rfl fun K hK=>?_
       (refine step_app_str w4 rfl (.tmp 66) (.tmp 68) 57 9 rfl 16 Tryz.underlying57 rs_str_info (by omega) wc.heap.size Bo.out.size g2 c2 i (T.take i) ho4.out [t] _ rfl rfl NS.out m1 hm1.out hib1.out ?_;intro g5 c5 w5 ho5 hg5;have B5:=Bo.out.grown hg5 Bo.out.size (fun q hq=>by injection hq with hq;subst hq;exact(ho4.out.lt _ rfl).1);have C5:=(B5.cell (p:=⟨p,1,none⟩) hpl1).trans C0;have B5:=zh B5;have ho5:=zh ho5)
       refine hK.out _ _ (fun _=>C5) ?_
       clear hK K
       have hS5:=C5
       try simp only[Act.put,sAp,sA0,sAs]
       refine hfRdy 18 (by kernel_rfl) rfl fun K hK=>?_
       (refine step_app_str w5 rfl (.tmp 69) (.tmp 75) 57 9 rfl 16 Tryz.underlying57 rs_str_info (by omega) wc.heap.size B5.out.size g5 c5 m1 (T.take i++[t]) ho5.out (T.drop i) _ rfl rfl (SR2.out.below B5.out) M (by rw[ldr.out];exact hm2.out) hM1.out ?_;intro g6 c6 w6 ho6 hg6;have B6:=B5.out.grown hg6 B5.out.size (fun q hq=>by injection hq with hq;subst hq;exact(ho5.out.lt _ rfl).1);have C6:=(B6.cell (p:=⟨p,1,none⟩) hpl1).trans C0;have F6:=(B6.frozen (p:=⟨p,1,none⟩) hpl1).trans F0;have B6:=zh B6;have ho6:=zh ho6)
       refine hK.out _ _ (fun _=>C6) ?_
       clear hK K
       have hS6:=C6
       try simp only[Act.put,sAp,sA0,sAs]
       refine hfRdy 19 (by kernel_rfl) rfl fun K hK=>?_
       go_simp
       refine hK.out _ _ (fun _=>C6) ?_
       clear hK K
       have hS7:=C6
       try simp only[Act.put,sAp,sA0,sAs]
       refine hfRdy 20 (by kernel_rfl) rfl fun K hK=>?_
       go_simp
       refine hK.out _ _ (fun _=>C6) ?_
       clear hK K
       have hS8:=C6
       try simp only[Act.put,sAp,sA0,sAs]
       refine hfRdy 21 (by kernel_rfl) rfl fun K hK=>?_
       go_simp
       refine hK.out _ _ (fun h=>absurd rfl h) ?_
       refine wpAnyF_done (by kernel_rfl) ?_ _
       clear hK K
       go_wp2_with fail
       go_meet
       exact⟨g6,c6,((hp1.out.below B6.out hpl1).set_ 1 _),ownsRow_setCell_below ho6.out (by exact hpl1) _,((Kept.refl _ wc).below B6.out (fun k h=>h.1)).setCell (by simp) _⟩
      ·go_simp
       have Bo:Hid (Below wc.heap.size wc (we.alloc (.cells #[.string t] 9))):=zh (Be.out.alloc Be.out.size _)
       have NB:Hid (Blk (we.alloc (.cells #[.string t] 9)) we.heap.size 9 #[.string t]):=zh (Blk.new we _ _)
       have Co:(we.alloc (.cells #[.string t] 9)).cell? ⟨p,1,none⟩=some (.slice (some ⟨g1,0,none⟩) T.length k1):=(Bo.out.cell (p:=⟨p,1,none⟩) hpl1).trans C0
       have OE2:=zh (OE.out.alloc (.cells #[.string t] 9))
       refine hK.out _ _ (fun _=>Co) ?_
       clear hK K
       try simp only[Act.put,sAp,sA0,sAs]
       have hne:Hid (we.heap.size≠wc.heap.size):=zh (by have:=(OE.out.lt wc.heap.size rfl).2;omega)
       generalize we.heap.size=nb at *
       generalize (we.alloc (.cells #[.string t] 9))=wo at *
       refine hfRdy 8 (by kernel_rfl) rfl fun K hK=>?_
       (refine step_app_str wo rfl (.tmp 59) (.tmp 65) 57 9 rfl 16 Tryz.underlying57 rs_str_info (by omega) wc.heap.size Bo.out.size wc.heap.size 0 0 [] OE2.out (T.take i) _ rfl rfl (SR1.out.below Bo.out) i (by rw[ltk.out,Nat.zero_add]) hib.out ?_;intro g2 c2 w2 ho2 hg2;rw[List.nil_append] at ho2;have B2:=Bo.out.grown hg2 Bo.out.size (fun q hq=>by injection hq with hq;have:=(OE2.out.lt wc.heap.size rfl).1;omega))
       have C2:=(B2.cell (p:=⟨p,1,none⟩) hpl1).trans C0
       have B2:=zh B2
       have ho2:=zh ho2
       refine hK.out _ _ (fun _=>C2) ?_
       clear hK K
       try simp only[Act.put,sAp,sA0,sAs]
       have NS:=zh (srow_one (NB.out.grown hg2 (fun e=>by have e:=Option.some.inj e;exact hne.out e)))
       refine hfRdy 11 (by kernel_rfl) rfl fun K hK=>?_
       (refine step_app_str w2 rfl (.tmp 66) (.tmp 68) 57 9 rfl 16 Tryz.underlying57 rs_str_info (by omega) wc.heap.size B2.out.size g2 c2 i (T.take i) ho2.out [t] _ rfl rfl NS.out m1 hm1.out hib1.out ?_;intro g5 c5 w5 ho5 hg5;have B5:=B2.out.grown hg5 B2.out.size (fun q hq=>by injection hq with hq;subst hq;exact(ho2.out.lt _ rfl).1);have C5:=(B5.cell (p:=⟨p,1,none⟩) hpl1).trans C0;have B5:=zh B5;have ho5:=zh ho5)
       refine hK.out _ _ (fun _=>C5) ?_
       clear hK K
       have hS5:=C5
       try simp only[Act.put,sAp,sA0,sAs]
       refine hfRdy 18 (by kernel_rfl) rfl fun K hK=>?_
       (refine step_app_str w5 rfl (.tmp 69) (.tmp 75) 57 9 rfl 16 Tryz.underlying57 rs_str_info (by omega) wc.heap.size B5.out.size g5 c5 m1 (T.take i++[t]) ho5.out (T.drop i) _ rfl rfl (SR2.out.below B5.out) M (by rw[ldr.out];exact hm2.out) hM1.out ?_;intro g6 c6 w6 ho6 hg6;have B6:=B5.out.grown hg6 B5.out.size (fun q hq=>by injection hq with hq;subst hq;exact(ho5.out.lt _ rfl).1);have C6:=(B6.cell (p:=⟨p,1,none⟩) hpl1).trans C0;have F6:=(B6.frozen (p:=⟨p,1,none⟩) hpl1).trans F0;have B6:=zh B6;have ho6:=zh ho6)
       refine hK.out _ _ (fun _=>C6) ?_
       clear hK K
       have hS6:=C6
       try simp only[Act.put,sAp,sA0,sAs]
       refine hfRdy 19 (by kernel_rfl) rfl fun K hK=>?_
       go_simp
       refine hK.out _ _ (fun _=>C6) ?_
       clear hK K
       have hS7:=C6
       try simp only[Act.put,sAp,sA0,sAs]
       refine hfRdy 20 (by kernel_rfl) rfl fun K hK=>?_
       go_simp
       refine hK.out _ _ (fun _=>C6) ?_
       clear hK K
       have hS8:=C6
       try simp only[Act.put,sAp,sA0,sAs]
       refine hfRdy 21 (by kernel_rfl) rfl fun K hK=>?_
       go_simp
       refine hK.out _ _ (fun h=>absurd rfl h) ?_
       refine wpAnyF_done (by kernel_rfl) ?_ _
       clear hK K
       go_wp2_with fail
       go_meet
       exact⟨g6,c6,((hp1.out.below B6.out hpl1).set_ 1 _),ownsRow_setCell_below ho6.out (by exact hpl1) _,((Kept.refl _ wc).below B6.out (fun k h=>h.1)).setCell (by simp) _⟩
     ·go_simp
      have Bo:Hid (Below wc.heap.size wc (wc.alloc (.cells #[.string t] 9)).drew):=zh (B0.out.alloc B0.out.size _)
      have NB:Hid (Blk (wc.alloc (.cells #[.string t] 9)).drew wc.heap.size 9 #[.string t]):=zh (Blk.new wc.drew _ _)
      have Co:(wc.alloc (.cells #[.string t] 9)).drew.cell? ⟨p,1,none⟩=some (.slice (some ⟨g1,0,none⟩) T.length k1):=(Bo.out.cell (p:=⟨p,1,none⟩) hpl1).trans C0
      refine hK.out _ _ (fun _=>Co) ?_
      clear hK K
      try simp only[Act.put,sAp,sA0,sAs]
      generalize (wc.alloc (.cells #[.string t] 9)).drew=wo at *
      refine hfRdy 1 (by kernel_rfl) rfl fun K hK=>?_
      go_simp
      have Be:Hid (Below wc.heap.size wc (wo.alloc (.cells #[] 9))):=zh (Bo.out.alloc Bo.out.size _)
      have OE:Hid ((wo.alloc (.cells #[] 9)).ownsRow wc.heap.size 9 1 (.slice (some ⟨wo.heap.size,0,none⟩) 0 0) 0 (([]:List ByteArray).map Value.string)):=zh ⟨rfl,Or.inr ⟨wo.heap.size,0,_,rfl,Bo.out.size,heap_alloc_new wo _,Nat.le_refl _,by decide,rfl,rfl⟩⟩
      have Ce:(wo.alloc (.cells #[] 9)).cell? ⟨p,1,none⟩=some (.slice (some ⟨g1,0,none⟩) T.length k1):=(Be.out.cell (p:=⟨p,1,none⟩) hpl1).trans C0
      have NB2:=zh (NB.out.alloc (.cells #[] 9))
      have hne:Hid (wc.heap.size≠wo.heap.size):=zh (by have:=NB.out.lt;omega)
      refine hK.out _ _ (fun _=>Ce) ?_
      clear hK K
      try simp only[Act.put,sAp,sA0,sAs]
      generalize wo.heap.size=ge at *
      generalize (wo.alloc (.cells #[] 9))=we at *
      refine hfRdy 8 (by kernel_rfl) rfl fun K hK=>?_
      (refine step_app_str we rfl (.tmp 59) (.tmp 65) 57 9 rfl 16 Tryz.underlying57 rs_str_info (by omega) wc.heap.size Be.out.size ge 0 0 [] OE.out (T.take i) _ rfl rfl (SR1.out.below Be.out) i (by rw[ltk.out,Nat.zero_add]) hib.out ?_;intro g2 c2 w2 ho2 hg2;rw[List.nil_append] at ho2;have B2:=Be.out.grown hg2 Be.out.size (fun q hq=>by injection hq with hq;have:=(OE.out.lt ge rfl).1;omega))
      have C2:=(B2.cell (p:=⟨p,1,none⟩) hpl1).trans C0
      have B2:=zh B2
      have ho2:=zh ho2
      refine hK.out _ _ (fun _=>C2) ?_
      clear hK K
      try simp only[Act.put,sAp,sA0,sAs]
      have NS:=zh (srow_one (NB2.out.grown hg2 (fun e=>by have e:=Option.some.inj e;exact hne.out e)))
      refine hfRdy 11 (by kernel_rfl) rfl fun K hK=>?_
      (refine step_app_str w2 rfl (.tmp 66) (.tmp 68) 57 9 rfl 16 Tryz.underlying57 rs_str_info (by omega) wc.heap.size B2.out.size g2 c2 i (T.take i) ho2.out [t] _ rfl rfl NS.out m1 hm1.out hib1.out ?_;intro g5 c5 w5 ho5 hg5;have B5:=B2.out.grown hg5 B2.out.size (fun q hq=>by injection hq with hq;subst hq;exact(ho2.out.lt _ rfl).1);have C5:=(B5.cell (p:=⟨p,1,none⟩) hpl1).trans C0;have B5:=zh B5;have ho5:=zh ho5)
      refine hK.out _ _ (fun _=>C5) ?_
      clear hK K
      have hS5:=C5
      try simp only[Act.put,sAp,sA0,sAs]
      refine hfRdy 18 (by kernel_rfl) rfl fun K hK=>?_
      (refine step_app_str w5 rfl (.tmp 69) (.tmp 75) 57 9 rfl 16 Tryz.underlying57 rs_str_info (by omega) wc.heap.size B5.out.size g5 c5 m1 (T.take i++[t]) ho5.out (T.drop i) _ rfl rfl (SR2.out.below B5.out) M (by rw[ldr.out];exact hm2.out) hM1.out ?_;intro g6 c6 w6 ho6 hg6;have B6:=B5.out.grown hg6 B5.out.size (fun q hq=>by injection hq with hq;subst hq;exact(ho5.out.lt _ rfl).1);have C6:=(B6.cell (p:=⟨p,1,none⟩) hpl1).trans C0;have F6:=(B6.frozen (p:=⟨p,1,none⟩) hpl1).trans F0;have B6:=zh B6;have ho6:=zh ho6)
      refine hK.out _ _ (fun _=>C6) ?_
      clear hK K
      have hS6:=C6
      try simp only[Act.put,sAp,sA0,sAs]
      refine hfRdy 19 (by kernel_rfl) rfl fun K hK=>?_
      go_simp
      refine hK.out _ _ (fun _=>C6) ?_
      clear hK K
      have hS7:=C6
      try simp only[Act.put,sAp,sA0,sAs]
      refine hfRdy 20 (by kernel_rfl) rfl fun K hK=>?_
      go_simp
      refine hK.out _ _ (fun _=>C6) ?_
      clear hK K
      have hS8:=C6
      try simp only[Act.put,sAp,sA0,sAs]
      refine hfRdy 21 (by kernel_rfl) rfl fun K hK=>?_
      go_simp
      refine hK.out _ _ (fun h=>absurd rfl h) ?_
      refine wpAnyF_done (by kernel_rfl) ?_ _
      clear hK K
      go_wp2_with fail
      go_meet
      exact⟨g6,c6,((hp1.out.below B6.out hpl1).set_ 1 _),ownsRow_setCell_below ho6.out (by exact hpl1) _,((Kept.refl _ wc).below B6.out (fun k h=>h.1)).setCell (by simp) _⟩
  case rest=>
   obtain⟨g5,c5,q1,q2,q3⟩:=hcut
   have r1:=zh q1
   have r2:=zh q2
   have r3:=zh q3
   clear q1 q2 q3
   go_wp2_with fail
   go_ret
   exact⟨rfl,ref_made r1.out ho2.out (r2.out) k3'.out r3.out hpw HL.out HS.out⟩
end Go.Proofs.YtceflhffilldeaaGreat
