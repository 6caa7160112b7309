/-
  Joined: ZEncD.
-/
import Derived.Test.YtceflhffilldeaaGreatZEnc
set_option linter.unusedVariables false
set_option linter.unusedSimpArgs false
set_option maxRecDepth 100000
set_option maxHeartbeats 16000000
namespace Go.Proofs.YtceflhffilldeaaGreat
open Go.RowKit ObjL Bw
theorem cell_byte (x:Int) (hx:0≤x) (hx':x≤255):cellsOf [byte x]=[.int .u8 x]:=by
 show [Value.int .u8 ((byte x).toNat:Int)]=_
 rw[byte_toNat,show x % 256=x by omega]
theorem wd_byte (B p:Nat) (acc:List UInt8) (x:Int) (sp:Bool) (w:World) (h:WdIs B w p acc sp) (hB:B≤w.heap.size) (hl:acc.length≤10000000) (hx:0≤x) (hx':x≤255) :
  Calls Tryz.prog 55 #[.pointer (some ⟨p,0,none⟩),.int .i64 x] w fun e w'=>e=.returned (.tuple #[])∧WdIs B w' p (acc++[byte x]) sp∧Below B w w':=by
 obtain⟨h0,v,h1,h2⟩:=h
 have c0:=h1.cell 0
 have f0:=h1.frozen 0
 have hpl:=h1.lt
 simp only[gAr,gC0,gCs] at c0
 have hne:=own_ne_p h2 h1 (by decide)
 have hbase:∀ k,v.ownBlock=some k→B≤k:=fun k hk=>(h2.lt k hk).1
 obtain⟨i0,hi0,hz0,hz1,hz2⟩:=info_parts rw_u8_info
 obtain⟨A0,k0,rfl⟩:=own_slice h2
 have h1':=zh h1
 have h2':=zh h2
 have hcb:=zh (cell_byte x hx hx')
 clear h1 h2
 have e1:((x % 256+256) % 256)=x:=by omega
 have q1:x.tmod 256=x:=by rw[Int.tmod_eq_emod_of_nonneg hx];omega
 have q2:(x+256).tmod 256=x:=by rw[Int.tmod_eq_emod_of_nonneg (by omega)];omega
 have q3:(x+256) % 256=x:=by omega
 have q4:x % 256=x:=by omega
 go_enter Tryz.func55,Tryz.ntmps55
 go_wp2_with (at_builtin;refine wpList_append_own _ rfl (.tmp 8) (.tmp 14) 86 rfl B 5 i0 _ 1 1 Tryz.underlying86 hi0 hz0 hz1 hz2 rfl (by omega) _ acc.length (cellsOf acc) rfl (h2'.out.alloc _) ⟨w.heap.size,0,none⟩ 1 1 [.int .u8 x] rfl rfl (news_one w _ _) (by simp[Value.oneCell']) (by simp only[maxLen];omega) (by omega) (by simp;omega) ?_;intro v2 w2 ho2 hg2 _;obtain⟨A2,k2,rfl⟩:=own_slice ho2;have L2:=(h1'.out.alloc _).grown hg2 (Ne.symm (by exact hne));have C0:=L2.cell 0;have F0:=L2.frozen 0;simp only[gAr,gC0,gCs] at C0;have B2:=zh (((Below.refl B w).alloc hB (.cells #[.int .u8 x] 5)).grown hg2 (by simp;omega) hbase);have L2:=zh L2;have ho2:=zh ho2;clear hg2)
 go_end0
 refine⟨rfl,⟨h0,.slice A2 (acc.length+1) k2,L2.out.set_ 0 _,?_⟩,B2.out.setCell h0 _⟩
 have hn2:=own_ne_p ho2.out L2.out (by decide)
 rw[cellsOf_app,hcb.out,List.length_append]
 exact ownsRow_setCell_other ho2.out hn2 _
theorem wd_raw (B p:Nat) (acc s:List UInt8) (sp:Bool) (w:World) (h:WdIs B w p acc sp) (hB:B≤w.heap.size) (hl:acc.length≤10000000) (hs:s.length≤10000000) :
  Calls Tryz.prog 34 #[.pointer (some ⟨p,0,none⟩),.string (txt s)] w fun e w'=>e=.returned (.tuple #[])∧WdIs B w' p (acc++s) sp∧Below B w w':=by
 obtain⟨h0,v,h1,h2⟩:=h
 have c0:=h1.cell 0
 have f0:=h1.frozen 0
 have hpl:=h1.lt
 simp only[gAr,gC0,gCs] at c0
 have hne:=own_ne_p h2 h1 (by decide)
 have hbase:∀ k,v.ownBlock=some k→B≤k:=fun k hk=>(h2.lt k hk).1
 obtain⟨i0,hi0,hz0,hz1,hz2⟩:=info_parts rw_u8_info
 obtain⟨A0,k0,rfl⟩:=own_slice h2
 have h1':=zh h1
 have h2':=zh h2
 have hsz:=zh (txt_size s)
 have hbs:(txt s).size≤10000000:=by rw[txt_size];omega
 have hsc:=zh (strCells_txt s)
 clear h1 h2
 generalize txt s=ts at *
 go_enter Tryz.func34,Tryz.ntmps34
 go_wp2_with (at_builtin;refine Go.Lib.wpList_append_own_string _ rfl (.tmp 8) (.tmp 9) 86 9 rfl B 5 i0 Tryz.underlying86 Tryz.underlying9 hi0 hz0 hz1 hz2 _ acc.length (cellsOf acc) rfl h2'.out ts rfl (by simp only[maxLen];omega) (by omega) hB ?_;intro v2 w2 ho2 hg2 _;obtain⟨A2,k2,rfl⟩:=own_slice ho2;have L2:=h1'.out.grown hg2 (Ne.symm (by exact hne));have C0:=L2.cell 0;have F0:=L2.frozen 0;simp only[gAr,gC0,gCs] at C0;have B2:=zh ((Below.refl B w).grown hg2 hB hbase);have L2:=zh L2;have ho2:=zh ho2;clear hg2)
 go_end0
 have e1:(acc++s).length=acc.length+ts.size:=by rw[List.length_append,hsz.out]
 refine⟨rfl,⟨h0,.slice A2 (acc.length+ts.size) k2,L2.out.set_ 0 _,?_⟩,B2.out.setCell h0 _⟩
 have hn2:=own_ne_p ho2.out L2.out (by decide)
 rw[e1,cellsOf_app,← hsc.out]
 exact ownsRow_setCell_other ho2.out hn2 _
theorem wd_bytes (B p:Nat) (acc:List UInt8) (w:World) (h:WdIs B w p acc false) (hl:acc.length≤10000000) :
  Calls Tryz.prog 35 #[.pointer (some ⟨p,0,none⟩)] w fun e w'=>e=.returned (if 131072<acc.length then .tuple #[.string (txt []),.int .i64 2] else .tuple #[.string (txt acc),.int .i64 0])∧w=w':=by
 obtain⟨h0,v,h1,h2⟩:=h
 have c0:=h1.cell 0
 have c1:=h1.cell 1
 simp only[gAr,gC0,gCs] at c0 c1
 have hcv:=conv_own h2
 obtain⟨A0,k0,rfl⟩:=own_slice h2
 by_cases hlong:131072<acc.length
 ·rw[if_pos hlong]
  have hl2:(131072:Int)<acc.length:=by omega
  clear h1 h2 hlong
  go_enter Tryz.func35,Tryz.ntmps35
  go_wp2_with fail
  go_ret2
  exact⟨rfl,rfl⟩
 ·rw[if_neg hlong]
  have hl2:¬ (131072:Int)<acc.length:=by omega
  clear h1 h2 hlong
  go_enter Tryz.func35,Tryz.ntmps35
  go_wp2_with fail
  go_ret2
  exact⟨rfl,rfl⟩
theorem wd_num (B p:Nat) (acc:List UInt8) (x:Int) (sp:Bool) (w:World) (h:WdIs B w p acc sp) (hB:B≤w.heap.size) (hl:acc.length≤9000000) (hx:fits x=true) :
  Calls Tryz.prog 33 #[.pointer (some ⟨p,0,none⟩),.int .i64 x] w fun e w'=>e=.returned (.tuple #[])∧WdIs B w' p (acc++numB x) sp∧Below B w w':=by
 have hx0:=hx
 unfold fits at hx0
 simp only[Bool.and_eq_true,decide_eq_true_eq] at hx0
 have FT:=fun W=>zh (ref01_fits x 32 W (by omega) (by omega))
 rw[fits32,hx] at FT
 have hh:=zh h
 have e5:numB x=numF 4 x:=numF_more 4 x (by simp only[wide7];omega) (by simp only[wide7];omega)
 have e5':=zh e5
 clear h hx e5
 go_enter Tryz.func33,Tryz.ntmps33
 go_wp2_with fail
 refine(FT _).out.mono ?_
 rintro e w1 ⟨rfl,rfl⟩
 go_wp2_with fail
 go_loopw [1] (fun m wr=>∃ (k:Nat) (y:Int) (pre:List UInt8),m=.int .i64 y∧k≤4∧pre.length=k∧Hid (WdIs B wr p (acc++pre) sp)∧Hid (numB x=pre++numF (4-k) y)∧-(64*wide7 (4-k))≤y∧y<64*wide7 (4-k)∧Below B w wr) (fun m _=>(intOf m).natAbs)
 case atStart=>exact⟨0,x,[],rfl,by omega,rfl,zh (by simpa using hh.out),zh (by simpa using e5'.out),by simp only[wide7];omega,by simp only[wide7];omega,Below.refl _ _⟩
 case round=>
  obtain⟨k,y,pre,rfl,hk,hpre,hW,hpr,hy1,hy2,hb⟩:=hrel
  have hy64:-34359738368≤y∧y≤34359738368:=by
   have h4:∀ j,j≤4→wide7 j≤268435456:=by decide
   have:=h4 (4-k) (by omega)
   omega
  have hBr:B≤wr.heap.size:=Nat.le_trans hB hb.size
  have hlp:(acc++pre).length≤10000000:=by rw[List.length_append];omega
  cases hs:small y
  ·have hk4:k<4:=by
    rcases Nat.lt_or_ge k 4 with h | h
    ·exact h
    ·obtain rfl:k=4:=by omega
     have e1:wide7 (4-4)=1:=rfl
     rw[e1] at hy1 hy2
     unfold small at hs
     simp at hs
     omega
   have e1:4-k=(4-(k+1))+1:=by omega
   have hnext:=hpr.out
   rw[e1,numF,if_neg (by rw[hs];simp)] at hnext
   rw[e1] at hy1 hy2
   simp only[wide7] at hy1 hy2
   have hns:¬ (-64≤y∧y<64):=by
    unfold small at hs
    simp at hs
    omega
   have hnext:=zh hnext
   have P1:=zh (wd_byte B p (acc++pre) (y % 128+128) sp wr hW.out hBr hlp (by omega) (by omega))
   have q0:((y.tmod 128+128).tmod 128)=y % 128:=by
    rw[Int.tmod_eq_emod_of_nonneg (by have:=Int.tmod_lt_of_pos y (show (0:Int)<128 by decide);have:-128<y.tmod 128:=(by rw[Int.tmod_eq_emod];split<;>omega);omega)]
    rw[Int.tmod_eq_emod];split<;>omega
   have q1:(y-y % 128).tdiv 128=y / 128:=by
    have h1:y-y % 128=y / 128*128:=by omega
    rw[h1]
    exact Int.mul_tdiv_cancel _ (by decide)
   have b1:-128<y.tmod 128:=by rw[Int.tmod_eq_emod];split<;>omega
   have b2:y.tmod 128<128:=Int.tmod_lt_of_pos y (by decide)
   have hny:y < -64∨63<y:=by omega
   have q2:decide (y < -64)=true∨decide (y < -64)=false∧decide (63<y)=true:=by
    by_cases h:y < -64
    ·exact Or.inl (decide_eq_true h)
    ·exact Or.inr ⟨decide_eq_false h,decide_eq_true (by omega)⟩
   have fin:∀ wz,WdIs B wz p (acc++pre++[byte (y % 128+128)]) sp→Below B wr wz→(∃ (k':Nat) (y':Int) (pre':List UInt8),Value.int IntKind.i64 (y / 128)=.int .i64 y'∧k'≤4∧pre'.length=k'∧Hid (WdIs B wz p (acc++pre') sp)∧Hid (numB x=pre'++numF (4-k') y')∧-(64*wide7 (4-k'))≤y'∧y'<64*wide7 (4-k')∧Below B w wz)∧(intOf (Value.int IntKind.i64 (y / 128))).natAbs<(intOf (Value.int IntKind.i64 y)).natAbs:=fun wz h1 h2=>
    ⟨⟨k+1,y / 128,pre++[byte (y % 128+128)],rfl,by omega,by simp[hpre],zh (by rw[← List.append_assoc];exact h1),zh (by rw[hnext.out];simp),by omega,by omega,hb.trans h2⟩,by simp only[intOf];omega⟩
   have fin:=zh fin
   clear hpr hW hnext hs
   rcases q2 with q2 | ⟨q2,q3⟩
   ·have hlt:y < -64:=by simpa using q2
    clear q2 hny hns
    go_wp2_with fail
    refine P1.out.mono ?_
    rintro e w2 ⟨rfl,h2,hb2⟩
    go_wp2_with fail
    exact fin.out _ h2 hb2
   ·have hlt:¬ y < -64:=by simpa using q2
    have hlt2:63<y:=by simpa using q3
    clear q2 q3 hny hns
    go_wp2_with fail
    refine P1.out.mono ?_
    rintro e w2 ⟨rfl,h2,hb2⟩
    go_wp2_with fail
    exact fin.out _ h2 hb2
  ·have hsm:-64≤y∧y<64:=by
    unfold small at hs
    simpa using hs
   obtain⟨s1,s2⟩:=hsm
   have hfin:numB x=pre++[byte (y % 128)]:=by
    have:=hpr.out
    rcases Nat.lt_or_ge k 4 with h | h
    ·rw[show 4-k=(4-(k+1))+1 by omega,numF,if_pos hs] at this;exact this
    ·obtain rfl:k=4:=by omega
     exact this
   have P1:=zh (wd_byte B p (acc++pre) (y % 128) sp wr hW.out hBr hlp (by omega) (by omega))
   have q0:(y+128).tmod 128=y % 128:=by rw[Int.tmod_eq_emod_of_nonneg (by omega)];omega
   have q1:(y+128) % 128=y % 128:=by omega
   have hfin':=zh hfin
   have hlt:¬ y < -64:=by omega
   have hlt2:¬ 63<y:=by omega
   clear hpr hW hs hfin
   go_wp2_with fail
   refine P1.out.mono ?_
   rintro e w2 ⟨rfl,h2,hb2⟩
   go_wp2_with fail
   go_end0
   exact⟨rfl,by rw[hfin'.out,← List.append_assoc];exact h2,hb.trans hb2⟩
theorem WdIs.drewN {B:Nat} {w:World} {p:Nat} {acc:List UInt8} {sp:Bool} (h:WdIs B w p acc sp) (n:Nat):WdIs B (w.drewN n) p acc sp:=by
 obtain⟨h0,v,h1,h2⟩:=h
 exact⟨h0,v,h1,h2⟩
theorem bel_drewN (B:Nat) (w:World) (n:Nat):Below B w (w.drewN n):=⟨rfl,rfl,rfl,Nat.le_refl _,fun _ _=>rfl⟩
theorem wd_get (x:Int) (i v:Int) (W:World) (hx:0≤x) (hx':x≤4294967295) (hi:i=0∧v=x % 256∨i=8∧v=x / 256 % 256∨i=16∧v=x / 65536 % 256∨i=24∧v=x / 16777216) :
  Calls Tryz.prog 56 #[.int .u32 x,.int .i64 i,.int .i64 8] W fun e w'=>e=.returned (.int .u32 v)∧∃ n,w'=W.drewN n:=by
 have h:=ref01_get x i 8 W hx (by omega) (by omega) (by omega) (by decide) (by decide)
 have e:Get x i 8=v:=by
  unfold Get
  rcases hi with ⟨rfl,rfl⟩ | ⟨rfl,rfl⟩ | ⟨rfl,rfl⟩ | ⟨rfl,rfl⟩
  ·rw[if_pos (by decide)];show x / 1 % 256=_;omega
  ·rw[if_pos (by decide)];rfl
  ·rw[if_pos (by decide)];rfl
  ·rw[if_pos (by decide)];show x / 16777216 % 256=_;omega
 rw[e] at h
 exact h
theorem wd_word (B p:Nat) (acc:List UInt8) (x:Int) (sp:Bool) (w:World) (h:WdIs B w p acc sp) (hB:B≤w.heap.size) (hl:acc.length≤9000000) (hx:0≤x) (hx':x≤4294967295) :
  Calls Tryz.prog 32 #[.pointer (some ⟨p,0,none⟩),.int .u32 x] w fun e w'=>e=.returned (.tuple #[])∧WdIs B w' p (acc++wordB x) sp∧Below B w w':=by
 have hh:=zh h
 have BY:=fun (a:List UInt8) (y:Int) W (h:WdIs B W p a sp) (hB:B≤W.heap.size) (hl:a.length≤10000000) (h1:0≤y) (h2:y≤255)=>zh (wd_byte B p a y sp W h hB hl h1 h2)
 have G0:=fun W=>zh (wd_get x 0 (x % 256) W hx hx' (by simp))
 have G1:=fun W=>zh (wd_get x 8 (x / 256 % 256) W hx hx' (by simp))
 have G2:=fun W=>zh (wd_get x 16 (x / 65536 % 256) W hx hx' (by simp))
 have G3:=fun W=>zh (wd_get x 24 (x / 16777216) W hx hx' (by simp))
 have hb0:byte (x % 256)=byte x:=byte_mod x
 have hb1:byte (x / 256 % 256)=byte (x / 256):=byte_mod _
 have hb2:byte (x / 65536 % 256)=byte (x / 65536):=byte_mod _
 have hfin:=zh (show acc++[byte (x % 256)]++[byte (x / 256 % 256)]++[byte (x / 65536 % 256)]++[byte (x / 16777216)]=acc++wordB x by rw[hb0,hb1,hb2];unfold wordB;simp)
 clear h hb0 hb1 hb2
 go_enter Tryz.func32,Tryz.ntmps32
 go_wp2_with fail
 refine wp_loop_rounds 5 ?_
 rw[rounds_succ]
 go_wp2_with fail
 refine(G0 _).out.mono ?_
 rintro e w1 ⟨rfl,n1,rfl⟩
 have P0:=BY acc (x % 256) _ (hh.out.drewN n1) hB (by omega) (by omega) (by omega)
 clear G0
 go_wp2_with fail
 refine P0.out.mono ?_
 rintro e w2 ⟨rfl,h2,hb2⟩
 have hB2:=Nat.le_trans hB hb2.size
 have hb2:=zh hb2
 have h2:=zh h2
 clear P0
 go_wp2_with fail
 rw[rounds_succ]
 go_wp2_with fail
 refine(G1 _).out.mono ?_
 rintro e w3 ⟨rfl,n3,rfl⟩
 have P1:=BY _ (x / 256 % 256) _ (h2.out.drewN n3) hB2 (by simp;omega) (by omega) (by omega)
 clear G1
 go_wp2_with fail
 refine P1.out.mono ?_
 rintro e w4 ⟨rfl,h4,hb4⟩
 have hB4:=Nat.le_trans hB2 hb4.size
 have hb4:=zh hb4
 have h4:=zh h4
 clear P1
 go_wp2_with fail
 rw[rounds_succ]
 go_wp2_with fail
 refine(G2 _).out.mono ?_
 rintro e w5 ⟨rfl,n5,rfl⟩
 have P2:=BY _ (x / 65536 % 256) _ (h4.out.drewN n5) hB4 (by simp;omega) (by omega) (by omega)
 clear G2
 go_wp2_with fail
 refine P2.out.mono ?_
 rintro e w6 ⟨rfl,h6,hb6⟩
 have hB6:=Nat.le_trans hB4 hb6.size
 have hb6:=zh hb6
 have h6:=zh h6
 clear P2
 go_wp2_with fail
 rw[rounds_succ]
 go_wp2_with fail
 refine(G3 _).out.mono ?_
 rintro e w7 ⟨rfl,n7,rfl⟩
 have P3:=BY _ (x / 16777216) _ (h6.out.drewN n7) hB6 (by simp;omega) (by omega) (by omega)
 clear G3
 go_wp2_with fail
 refine P3.out.mono ?_
 rintro e w8 ⟨rfl,h8,hb8⟩
 rw[hfin.out] at h8
 have hb8:=zh hb8
 have h8:=zh h8
 clear P3
 go_wp2_with fail
 rw[rounds_succ]
 go_wp2_with fail
 go_end0
 exact⟨rfl,h8.out,(((((((bel_drewN B w n1).trans hb2.out).trans (bel_drewN B _ n3)).trans hb4.out).trans (bel_drewN B _ n5)).trans hb6.out).trans (bel_drewN B _ n7)).trans hb8.out⟩
theorem wd_text (B p:Nat) (acc t:List UInt8) (sp:Bool) (w:World) (h:WdIs B w p acc sp) (hB:B≤w.heap.size) (hl:acc.length≤9000000) (ht:textOk t=true) :
  Calls Tryz.prog 31 #[.pointer (some ⟨p,0,none⟩),.string (txt t)] w fun e w'=>e=.returned (.tuple #[])∧WdIs B w' p (acc++textB t) sp∧Below B w w':=by
 have ht0:=ht
 unfold textOk at ht0
 simp only[Bool.and_eq_true,decide_eq_true_eq,Bool.not_eq_true'] at ht0
 obtain⟨ht1,ht2⟩:=ht0
 have hs64:((txt t).size:Int)≤64:=by rw[txt_size];omega
 have hat:∀ k (hk:k<(txt t).size),(((txt t)[k]'hk).toNat:Int)≠0:=by
  intro k hk e
  have hk':k<t.length:=by rw[txt_size] at hk;exact hk
  have e1:((txt t)[k]'hk)=t[k]:=by
   show ((txt t).data[k]'_)=_
   simp[txt]
  rw[e1] at e
  have e2:t[k]=0:=UInt8.toNat_inj.1 (by simpa using e)
  have:(0:UInt8)∈t:=e2 ▸ List.getElem_mem hk'
  rw[List.contains_iff_mem.2 this] at ht2
  cases ht2
 obtain⟨h0,v,h1,h2⟩:=h
 have c0:=h1.cell 0
 have f0:=h1.frozen 0
 have hpl:=h1.lt
 simp only[gAr,gC0,gCs] at c0
 have hne:=own_ne_p h2 h1 (by decide)
 have hbase:∀ k,v.ownBlock=some k→B≤k:=fun k hk=>(h2.lt k hk).1
 obtain⟨i0,hi0,hz0,hz1,hz2⟩:=info_parts rw_u8_info
 obtain⟨A0,k0,rfl⟩:=own_slice h2
 have h1':=zh h1
 have h2':=zh h2
 have hsz:=zh (txt_size t)
 have hbs:(txt t).size≤64:=by rw[txt_size];omega
 have hsc:=zh (strCells_txt t)
 have hat:=zh hat
 clear h1 h2 ht2
 generalize txt t=ts at *
 go_enter Tryz.func31,Tryz.ntmps31
 go_wp2_with fail
 go_loop [4] (fun i=>∃ k:Nat,i=.int .i64 k∧k≤ts.size) (fun i=>ts.size-(intOf i).toNat)
 case atStart=>exact⟨0,rfl,by omega⟩
 case round=>
  obtain⟨k,rfl,hk⟩:=hrel
  by_cases hlt:k<ts.size
  ·have hz:=hat.out k hlt
   have hzb:(((ts[k]'hlt).toNat:Int)==0)=false:=by simpa using hz
   have hlt':(k:Int)<ts.size:=by omega
   go_wp2_with fail
   go_round
   case rel=>exact⟨k+1,by go_num,by omega⟩
   case measure=>simp[intOf];omega
  ·have hlt':¬ (k:Int)<ts.size:=by omega
   go_wp2_with (first
    | (at_builtin;refine Go.Lib.wpList_append_own_string _ rfl (.tmp 28) (.tmp 29) 86 9 rfl B 5 i0 Tryz.underlying86 Tryz.underlying9 hi0 hz0 hz1 hz2 _ acc.length (cellsOf acc) rfl h2'.out ts rfl (by simp only[maxLen];omega) (by omega) hB ?_;intro v2 w2 ho2 hg2 _;obtain⟨A2,k2,rfl⟩:=own_slice ho2;have L2:=h1'.out.grown hg2 (Ne.symm (by exact hne));have B2:=zh ((Below.refl B w).grown hg2 hB hbase);have hn2:=own_ne_p ho2 L2 (by decide);have hbase2:∀ k,(Value.slice A2 (acc.length+ts.size) k2).ownBlock=some k→B≤k:=fun k hk=>(ho2.lt k hk).1;have L2:=zh L2;have ho2:=zh ho2;have hs2:=hg2.size;clear hg2)
    | (at_builtin;refine wpList_append_own _ rfl (.tmp 30) (.tmp 31) 86 rfl B 5 i0 _ 1 1 Tryz.underlying86 hi0 hz0 hz1 hz2 rfl (by omega) _ (acc.length+ts.size) (cellsOf acc++Go.Lib.strCells ts) rfl (ho2.out.alloc _) ⟨w2.heap.size,0,none⟩ 1 1 [.int .u8 0] rfl rfl (news_one w2 _ _) (by simp[Value.oneCell']) (by simp only[maxLen];omega) (by omega) (by simp;omega) ?_;intro v3 w3 ho3 hg3 _;obtain⟨A3,k3,rfl⟩:=own_slice ho3;have L3:=(L2.out.alloc _).grown hg3 (Ne.symm (by exact hn2));have C3:=L3.cell 0;have F3:=L3.frozen 0;simp only[gAr,gC0,gCs] at C3;have B3:=zh ((B2.out.alloc (Nat.le_trans hB hs2) (.cells #[.int .u8 0] 5)).grown hg3 (by simp;omega) hbase2);have L3:=zh L3;have ho3:=zh ho3;clear hg3))
   go_end0
   have hn3:=own_ne_p ho3.out L3.out (by decide)
   have e1:(acc++textB t).length=acc.length+ts.size+1:=by unfold textB;rw[List.length_append,List.length_append,hsz.out];simp;omega
   have e2:cellsOf (acc++textB t)=cellsOf acc++Go.Lib.strCells ts++[.int .u8 0]:=by
    rw[hsc.out]
    unfold textB
    rw[cellsOf_app,cellsOf_app,List.append_assoc]
    rfl
   refine⟨rfl,⟨h0,.slice A3 (acc.length+ts.size+1) k3,L3.out.set_ 0 _,?_⟩,B3.out.setCell h0 _⟩
   rw[e1,e2]
   exact ownsRow_setCell_other ho3.out hn3 _
end Go.Proofs.YtceflhffilldeaaGreat
namespace Go.Proofs.YtceflhffilldeaaGreat
open Go.RowKit ObjL
theorem ref23_encode (o:Ob) (vU vD vC vE:Value) (w:World) (hp:ObParts w o vU vD vC vE) (g:Bool) (hg:g=true→WrOk o)
  (GOOD:∀ W,ObParts W o vU vD vC vE→Calls Tryz.prog 30 #[.agg (obCells o vU vD vC vE)] W fun e w'=>e=.returned (.bool g)∧Below W.heap.size W w') :
  Calls Tryz.prog 12 #[.agg (obCells o vU vD vC vE)] w fun e w'=>e=.returned (encRes g o)∧Below w.heap.size w w':=by
 have hp':=zh hp
 obtain⟨hU,hD,hC,hE⟩:=hp
 obtain⟨hU1,AU,cU,rfl,-⟩:=hU
 obtain⟨hD1,AD,cD,rfl,-⟩:=hD
 obtain⟨hC1,AC,cC,rfl,-⟩:=hC
 obtain⟨hE1,AE,cE,rfl,-⟩:=hE
 have G1:=zh (GOOD (w.alloc (.cells (obCells o (.slice AU o.uses.length cU) (.slice AD o.descs.length cD) (.slice AC o.code.length cC) (.slice AE o.entries.length cE)) 48)) (hp'.out.below ((Below.refl _ _).alloc (Nat.le_refl _) _)))
 have L1:=zh (Blk.new w 48 (obCells o (.slice AU o.uses.length cU) (.slice AD o.descs.length cD) (.slice AC o.code.length cC) (.slice AE o.entries.length cE)))
 have PA:=zh (hp'.out.below ((Below.refl _ _).alloc (Nat.le_refl _) (.cells (obCells o (.slice AU o.uses.length cU) (.slice AD o.descs.length cD) (.slice AC o.code.length cC) (.slice AE o.entries.length cE)) 48)))
 have BA:=zh ((Below.refl w.heap.size w).alloc (Nat.le_refl _) (.cells (obCells o (.slice AU o.uses.length cU) (.slice AD o.descs.length cD) (.slice AC o.code.length cC) (.slice AE o.entries.length cE)) 48))
 have hi:Hid ((Tryz.prog.info? 48).map (·.size)=some (obCells o (.slice AU o.uses.length cU) (.slice AD o.descs.length cD) (.slice AC o.code.length cC) (.slice AE o.entries.length cE)).size):=zh (by kernel_rfl)
 clear GOOD hp'
 have hgA:w.heap.size<(w.alloc (.cells (obCells o (.slice AU o.uses.length cU) (.slice AD o.descs.length cD) (.slice AC o.code.length cC) (.slice AE o.entries.length cE)) 48)).heap.size:=by simp
 go_enter Tryz.func12,Tryz.ntmps12
 go_wp2_with (refine wpList_load_row rfl 48 (.tmp 1) rfl w.heap.size rfl 48 (obCells o (.slice AU o.uses.length cU) (.slice AD o.descs.length cD) (.slice AC o.code.length cC) (.slice AE o.entries.length cE)) (0,0) _ L1.out Tryz.underlying48 rfl hi.out ?_)
 refine G1.out.mono ?_
 rintro e w1 ⟨rfl,hb1⟩
 have OB:=zh (L1.out.below hb1 hgA)
 have PB:=zh (PA.out.below hb1)
 have BB:=zh (BA.out.trans (hb1.mono (Nat.le_of_lt hgA)))
 have hgO:=Nat.lt_of_lt_of_le hgA hb1.size
 clear G1 hb1 hi L1 PA BA hgA
 generalize w.alloc (.cells (obCells o (.slice AU o.uses.length cU) (.slice AD o.descs.length cD) (.slice AC o.code.length cC) (.slice AE o.entries.length cE)) 48)=wA at *
 cases g
 ·go_wp2_with fail
  go_ret2
  exact⟨rfl,BB.out⟩
 ·have hWO:=hg rfl
  have lenO:=zh (enc_len hWO)
  have hWO':=zh hWO
  have OBf:Hid (∀ W,Below w1.heap.size w1 W→Blk W w.heap.size 48 (obCells o (.slice AU o.uses.length cU) (.slice AD o.descs.length cD) (.slice AC o.code.length cC) (.slice AE o.entries.length cE))):=zh (fun W hb=>OB.out.below hb hgO)
  have PBf:Hid (∀ W,Below w1.heap.size w1 W→ObParts W o (.slice AU o.uses.length cU) (.slice AD o.descs.length cD) (.slice AC o.code.length cC) (.slice AE o.entries.length cE)):=zh (fun W hb=>PB.out.below hb)
  have hBB:w.heap.size≤w1.heap.size:=BB.out.size
  clear hg hWO OB PB
  have hW0:WdIs w1.heap.size (w1.alloc (.cells #[.slice none 0 0,.bool false] 88)) w1.heap.size [] false:=⟨Nat.le_refl _,.slice none 0 0,Blk.new w1 _ _,World.ownsRow_nil _ _ _ _⟩
  have hb0:Below w1.heap.size w1 (w1.alloc (.cells #[.slice none 0 0,.bool false] 88)):=(Below.refl _ _).alloc (Nat.le_refl _) _
  have hW0:=zh hW0
  have hb0:=zh hb0
  go_wp2_with fail
  have hW0:=hW0.out
  have hb0:=hb0.out
  generalize w1.alloc (.cells #[.slice none 0 0,.bool false] 88)=W0 at *
  have hac:Hid ([]++(textB head++er1 o)=encO o):=zh rfl
  have hW:=zh hW0
  have hb:=zh hb0
  clear hW0 hb0
  obtain⟨B,hBe⟩:∃ B,B=w1.heap.size:=⟨_,rfl⟩
  rw[← hBe] at hW hb OBf PBf
  have hB0:=zh hBe.symm
  have hBl:w.heap.size≤B:=by omega
  rw[← hBe]
  clear hBe
  obtain⟨a0,ha0⟩:∃ a:List UInt8,a=[]:=⟨_,rfl⟩
  rw[← ha0] at hW hac
  clear ha0
  generalize hgg:w.heap.size=gO at *
  have hgg:=zh hgg
  have HP:=zh (wd_text B B a0 head false W0 hW.out (by have:=hb.out.size;have:=hB0.out;omega) (by have:=len_ok hac.out lenO.out;omega) (by decide))
  have eH:txt head=⟨#[83,80,79,66]⟩:=rfl
  rw[eH] at HP
  clear eH
  go_wp2_with fail
  refine HP.out.mono ?_
  rintro e W1 ⟨rfl,hW1,hk⟩
  have hbN:=zh (hb.out.trans hk)
  obtain⟨a1,ha⟩:∃ a,a=a0++textB head:=⟨_,rfl⟩
  rw[← ha] at hW1
  have hacN:Hid (a1++er1 o=encO o):=zh (by rw[ha,List.append_assoc];exact hac.out)
  have hWN:=zh hW1
  clear HP ha hW1 hk hac hb hW
  have hW:=hWN
  have hac:=hacN
  have hb:=hbN
  clear hWN hacN hbN
  have c0:W1.cell? ⟨gO,0,none⟩=some (.string (txt o.name)):=(OBf.out _ hb.out).cell 0
  have HP:=zh (wd_text B B a1 o.name false W1 hW.out (by have:=hb.out.size;have:=hB0.out;omega) (by have:=len_ok hac.out lenO.out;omega) hWO'.out.name)
  go_wp2_with fail
  refine HP.out.mono ?_
  rintro e W2 ⟨rfl,hW1,hk⟩
  have hbN:=zh (hb.out.trans hk)
  obtain⟨a2,ha⟩:∃ a,a=a1++textB o.name:=⟨_,rfl⟩
  rw[← ha] at hW1
  have hacN:Hid (a2++er2 o=encO o):=zh (by rw[ha,List.append_assoc];exact hac.out)
  have hWN:=zh hW1
  clear HP ha hW1 hk hac hb hW c0
  have hW:=hWN
  have hac:=hacN
  have hb:=hbN
  clear hWN hacN hbN
  have c1:W2.cell? ⟨gO,1,none⟩=some (.int .u32 o.key):=(OBf.out _ hb.out).cell 1
  have HP:=zh (wd_word B B a2 o.key false W2 hW.out (by have:=hb.out.size;have:=hB0.out;omega) (by have:=len_ok hac.out lenO.out;omega) (word_iff hWO'.out.key).1 (word_iff hWO'.out.key).2)
  go_wp2_with fail
  refine HP.out.mono ?_
  rintro e W3 ⟨rfl,hW1,hk⟩
  have hbN:=zh (hb.out.trans hk)
  obtain⟨a3,ha⟩:∃ a,a=a2++wordB o.key:=⟨_,rfl⟩
  rw[← ha] at hW1
  have hacN:Hid (a3++er3 o=encO o):=zh (by rw[ha,List.append_assoc];exact hac.out)
  have hWN:=zh hW1
  clear HP ha hW1 hk hac hb hW c1
  have hW:=hWN
  have hac:=hacN
  have hb:=hbN
  clear hWN hacN hbN
  have c2:W3.cell? ⟨gO,2,none⟩=some (.slice AU o.uses.length cU):=(OBf.out _ hb.out).cell 2
  have HP:=zh (wd_num B B a3 o.uses.length false W3 hW.out (by have:=hb.out.size;have:=hB0.out;omega) (by have:=len_ok hac.out lenO.out;omega) (fits_nat hWO'.out.uses (by decide)))
  go_wp2_with fail
  refine HP.out.mono ?_
  rintro e W4 ⟨rfl,hW1,hk⟩
  have hbN:=zh (hb.out.trans hk)
  obtain⟨a4,ha⟩:∃ a,a=a3++numB o.uses.length:=⟨_,rfl⟩
  rw[← ha] at hW1
  have hacN:Hid (a4++er4 o=encO o):=zh (by rw[ha,List.append_assoc];exact hac.out)
  have hWN:=zh hW1
  clear HP ha hW1 hk hac hb hW c2
  have hW:=hWN
  have hac:=hacN
  have hb:=hbN
  clear hWN hacN hbN
  have c2:W4.cell? ⟨gO,2,none⟩=some (.slice AU o.uses.length cU):=(OBf.out _ hb.out).cell 2
  go_wp2_with fail
  clear c2
  go_loopw [5] (fun i wr=>∃ (k:Nat) (acc:List UInt8),i=.int .i64 k∧k≤o.uses.length∧Hid (WdIs B wr B acc false)∧Hid (acc++((o.uses.drop k).flatMap useB++er5 o)=encO o)∧Hid (Below B w1 wr)) (fun i _=>o.uses.length-(intOf i).toNat)
  case atStart=>exact⟨0,a4,rfl,by omega,hW,zh (by exact hac.out),hb⟩
  case round=>
   clear hW hac hb
   obtain⟨k,acc,rfl,hkk,hW,hac,hb⟩:=hrel
   by_cases hltk:(k:Int)<(o.uses.length:Int)
   ·have hltnk:k<o.uses.length:=by omega
    obtain⟨-,A1,c1,e1,hc⟩:=(PBf.out w1 (Below.refl _ _)).uses
    injection e1 with e1 _ e2
    subst e1 e2
    obtain⟨ad,rfl,had,hx⟩:=hc k hltnk
    obtain⟨y0,q0,z0⟩:=hx 0 (by decide)
    obtain⟨y1,q1,z1⟩:=hx 1 (by decide)
    have z0:=z0.1 rfl
    have z1:=z1.2 rfl
    subst z0 z1
    have XF0:Hid (∀ W,Below B w1 W→W.cell? (ad.add (k*2))=some (.string (txt (o.uses[k]).1))):=zh (fun W h=>(h.cell (p:=ad.add (k*2)) (by rw[block_add];have:=hB0.out;omega)).trans q0)
    have XF1:Hid (∀ W,Below B w1 W→W.cell? ⟨(ad.add (k*2)).block,(ad.add (k*2)).off+1,none⟩=some (.int .u32 (o.uses[k]).2)):=zh (fun W h=>(h.cell (p:=⟨(ad.add (k*2)).block,(ad.add (k*2)).off+1,none⟩) (by show (ad.add (k*2)).block<B;rw[block_add];have:=hB0.out;omega)).trans q1)
    clear hc hx q0 q1 had
    have hu:=zh (hWO'.out.use _ (List.getElem_mem hltnk))
    have hacU:Hid (acc++(textB (o.uses[k]).1++(wordB (o.uses[k]).2++((o.uses.drop (k+1)).flatMap useB++er5 o)))=encO o):=zh (by have:=hac.out;rw[drop_at hltnk,List.flatMap_cons,List.append_assoc] at this;rw[← List.append_assoc (textB _)];exact this)
    clear hac
    have hac:=hacU
    clear hacU
    generalize o.uses[k]=u at *
    obtain⟨un,uk⟩:=u
    dsimp only at XF0 XF1 hac hu
    have c2:wr.cell? ⟨gO,2,none⟩=some (.slice (some ad) o.uses.length cU):=(OBf.out _ hb.out).cell 2
    have x0:=XF0.out wr hb.out
    have HP:=zh (wd_text B B acc un false wr hW.out (by have:=hb.out.size;have:=hB0.out;omega) (by have:=len_ok hac.out lenO.out;omega) hu.out.1)
    go_wp2_with fail
    refine HP.out.mono ?_
    rintro e W5 ⟨rfl,hW1,hk⟩
    have hbN:=zh (hb.out.trans hk)
    obtain⟨a5,ha⟩:∃ a,a=acc++textB un:=⟨_,rfl⟩
    rw[← ha] at hW1
    have hacN:Hid (a5++(wordB uk++((o.uses.drop (k+1)).flatMap useB++er5 o))=encO o):=zh (by rw[ha,List.append_assoc];exact hac.out)
    have hWN:=zh hW1
    clear HP ha hW1 hk hac hb hW
    have hW:=hWN
    have hac:=hacN
    have hb:=hbN
    clear hWN hacN hbN
    clear c2 x0
    have c2:W5.cell? ⟨gO,2,none⟩=some (.slice (some ad) o.uses.length cU):=(OBf.out _ hb.out).cell 2
    have x1:=XF1.out W5 hb.out
    have HP:=zh (wd_word B B a5 uk false W5 hW.out (by have:=hb.out.size;have:=hB0.out;omega) (by have:=len_ok hac.out lenO.out;omega) (word_iff hu.out.2).1 (word_iff hu.out.2).2)
    go_wp2_with fail
    refine HP.out.mono ?_
    rintro e W6 ⟨rfl,hW1,hk⟩
    have hbN:=zh (hb.out.trans hk)
    obtain⟨a6,ha⟩:∃ a,a=a5++wordB uk:=⟨_,rfl⟩
    rw[← ha] at hW1
    have hacN:Hid (a6++((o.uses.drop (k+1)).flatMap useB++er5 o)=encO o):=zh (by rw[ha,List.append_assoc];exact hac.out)
    have hWN:=zh hW1
    clear HP ha hW1 hk hac hb hW
    have hW:=hWN
    have hac:=hacN
    have hb:=hbN
    clear hWN hacN hbN
    clear c2 x1
    go_wp2_with fail
    exact⟨⟨k+1,a6,by go_num,by omega,hW,hac,hb⟩,by simp[intOf];omega⟩
   ·obtain rfl:k=o.uses.length:=by omega
    have hac2:Hid (acc++er5 o=encO o):=zh (by have:=hac.out;simpa using this)
    clear hac
    have hac:=hac2
    clear hac2
    have c2:wr.cell? ⟨gO,2,none⟩=some (.slice AU o.uses.length cU):=(OBf.out _ hb.out).cell 2
    have c3:wr.cell? ⟨gO,3,none⟩=some (.slice AD o.descs.length cD):=(OBf.out _ hb.out).cell 3
    have HP:=zh (wd_num B B acc o.descs.length false wr hW.out (by have:=hb.out.size;have:=hB0.out;omega) (by have:=len_ok hac.out lenO.out;omega) (fits_nat hWO'.out.descs (by decide)))
    go_wp2_with fail
    refine HP.out.mono ?_
    rintro e W7 ⟨rfl,hW1,hk⟩
    have hbN:=zh (hb.out.trans hk)
    obtain⟨a7,ha⟩:∃ a,a=acc++numB o.descs.length:=⟨_,rfl⟩
    rw[← ha] at hW1
    have hacN:Hid (a7++er6 o=encO o):=zh (by rw[ha,List.append_assoc];exact hac.out)
    have hWN:=zh hW1
    clear HP ha hW1 hk hac hb hW c3
    have hW:=hWN
    have hac:=hacN
    have hb:=hbN
    clear hWN hacN hbN
    clear c2
    have c3:W7.cell? ⟨gO,3,none⟩=some (.slice AD o.descs.length cD):=(OBf.out _ hb.out).cell 3
    go_wp2_with fail
    clear c3
    go_loopw [6] (fun i wr=>∃ (k:Nat) (acc:List UInt8),i=.int .i64 k∧k≤o.descs.length∧Hid (WdIs B wr B acc false)∧Hid (acc++((o.descs.drop k).flatMap descB++er7 o)=encO o)∧Hid (Below B w1 wr)) (fun i _=>o.descs.length-(intOf i).toNat)
    case atStart=>exact⟨0,a7,rfl,by omega,hW,zh (by exact hac.out),hb⟩
    case round=>
     clear hW hac hb
     obtain⟨k,acc,rfl,hkk,hW,hac,hb⟩:=hrel
     by_cases hltk:(k:Int)<(o.descs.length:Int)
     ·have hltnk:k<o.descs.length:=by omega
      obtain⟨-,A1,c1,e1,hc⟩:=(PBf.out w1 (Below.refl _ _)).descs
      injection e1 with e1 _ e2
      subst e1 e2
      obtain⟨ad,rfl,had,hx⟩:=hc k hltnk
      obtain⟨y0,q0,z0⟩:=hx 0 (by decide)
      obtain⟨y1,q1,z1⟩:=hx 1 (by decide)
      have z0:=z0.1 rfl
      have z1:=z1.2 rfl
      subst z0
      have XF0:Hid (∀ W,Below B w1 W→W.cell? (ad.add (k*2))=some (.int .i64 (o.descs[k]).1)):=zh (fun W h=>(h.cell (p:=ad.add (k*2)) (by rw[block_add];have:=hB0.out;omega)).trans q0)
      have XF1:Hid (∀ W,Below B w1 W→W.cell? ⟨(ad.add (k*2)).block,(ad.add (k*2)).off+1,none⟩=some (y1)):=zh (fun W h=>(h.cell (p:=⟨(ad.add (k*2)).block,(ad.add (k*2)).off+1,none⟩) (by show (ad.add (k*2)).block<B;rw[block_add];have:=hB0.out;omega)).trans q1)
      clear hc hx q0 q1 had
      have ERf:Hid (∀ W,Below B w1 W→ERow W y1 (o.descs[k]).2):=zh (fun W h=>ERow.below z1 (by rw[hB0.out];exact h))
      obtain⟨-,A2,k2,rfl,-⟩:=z1
      have hd:=zh (hWO'.out.desc _ (List.getElem_mem hltnk))
      have hacU:Hid (acc++(numB (o.descs[k]).1++(numB (o.descs[k]).2.length++((o.descs[k]).2.flatMap extB++((o.descs.drop (k+1)).flatMap descB++er7 o))))=encO o):=zh (by have:=hac.out;rw[drop_at hltnk,List.flatMap_cons,show descB (o.descs[k])=numB (o.descs[k]).1++(numB (o.descs[k]).2.length++(o.descs[k]).2.flatMap extB) from rfl] at this;simp only[List.append_assoc] at this;exact this)
      clear hac
      have hac:=hacU
      clear hacU
      generalize o.descs[k]=d at *
      obtain⟨dz,de⟩:=d
      dsimp only at XF0 XF1 hac hd ERf
      have hde5:de.length≤5:=hd.out.2.1
      have c3:wr.cell? ⟨gO,3,none⟩=some (.slice (some ad) o.descs.length cD):=(OBf.out _ hb.out).cell 3
      have x0:=XF0.out wr hb.out
      have HP:=zh (wd_num B B acc dz false wr hW.out (by have:=hb.out.size;have:=hB0.out;omega) (by have:=len_ok hac.out lenO.out;omega) hd.out.1)
      go_wp2_with fail
      refine HP.out.mono ?_
      rintro e W8 ⟨rfl,hW1,hk⟩
      have hbN:=zh (hb.out.trans hk)
      obtain⟨a8,ha⟩:∃ a,a=acc++numB dz:=⟨_,rfl⟩
      rw[← ha] at hW1
      have hacN:Hid (a8++(numB de.length++(de.flatMap extB++((o.descs.drop (k+1)).flatMap descB++er7 o)))=encO o):=zh (by rw[ha,List.append_assoc];exact hac.out)
      have hWN:=zh hW1
      clear HP ha hW1 hk hac hb hW
      have hW:=hWN
      have hac:=hacN
      have hb:=hbN
      clear hWN hacN hbN
      clear c3 x0
      have c3:W8.cell? ⟨gO,3,none⟩=some (.slice (some ad) o.descs.length cD):=(OBf.out _ hb.out).cell 3
      have x1:=XF1.out W8 hb.out
      have HP:=zh (wd_num B B a8 de.length false W8 hW.out (by have:=hb.out.size;have:=hB0.out;omega) (by have:=len_ok hac.out lenO.out;omega) (fits_nat hd.out.2.1 (by decide)))
      go_wp2_with fail
      refine HP.out.mono ?_
      rintro e W9 ⟨rfl,hW1,hk⟩
      have hbN:=zh (hb.out.trans hk)
      obtain⟨a9,ha⟩:∃ a,a=a8++numB de.length:=⟨_,rfl⟩
      rw[← ha] at hW1
      have hacN:Hid (a9++(de.flatMap extB++((o.descs.drop (k+1)).flatMap descB++er7 o))=encO o):=zh (by rw[ha,List.append_assoc];exact hac.out)
      have hWN:=zh hW1
      clear HP ha hW1 hk hac hb hW
      have hW:=hWN
      have hac:=hacN
      have hb:=hbN
      clear hWN hacN hbN
      clear c3 x1
      go_wp2_with fail
      go_loopw [7] (fun i wr=>∃ (j:Nat) (acd:List UInt8),i=.int .i64 j∧j≤de.length∧Hid (WdIs B wr B acd false)∧Hid (acd++((de.drop j).flatMap extB++((o.descs.drop (k+1)).flatMap descB++er7 o))=encO o)∧Hid (Below B w1 wr)) (fun i _=>de.length-(intOf i).toNat)
      case atStart=>exact⟨0,a9,rfl,by omega,hW,zh (by exact hac.out),hb⟩
      case round=>
       clear hW hac hb
       obtain⟨j,acd,rfl,hkj,hW,hac,hb⟩:=hrel
       by_cases hltj:(j:Int)<(de.length:Int)
       ·have hltnj:j<de.length:=by omega
        obtain⟨-,A3,k3,e3,hc⟩:=ERf.out w1 (Below.refl _ _)
        injection e3 with e3 _ e4
        subst e3 e4
        obtain⟨ae,rfl,hae,hx⟩:=hc j hltnj
        obtain⟨y0,q0,z0⟩:=hx 0 (by decide)
        obtain⟨y1,q1,z1⟩:=hx 1 (by decide)
        have z0:=z0.1 rfl
        have z1:=z1.2 rfl
        subst z0 z1
        have YF0:Hid (∀ W,Below B w1 W→W.cell? (ae.add (j*2))=some (.int .i64 (de[j]).1)):=zh (fun W h=>(h.cell (p:=ae.add (j*2)) (by rw[block_add];have:=hB0.out;omega)).trans q0)
        have YF1:Hid (∀ W,Below B w1 W→W.cell? ⟨(ae.add (j*2)).block,(ae.add (j*2)).off+1,none⟩=some (.int .i64 (de[j]).2)):=zh (fun W h=>(h.cell (p:=⟨(ae.add (j*2)).block,(ae.add (j*2)).off+1,none⟩) (by show (ae.add (j*2)).block<B;rw[block_add];have:=hB0.out;omega)).trans q1)
        clear hc hx q0 q1 hae
        have hx:=zh (hd.out.2.2 _ (List.getElem_mem hltnj))
        have hacV:Hid (acd++(numB (de[j]).1++(numB (de[j]).2++((de.drop (j+1)).flatMap extB++((o.descs.drop (k+1)).flatMap descB++er7 o))))=encO o):=zh (by have:=hac.out;rw[drop_at hltnj,List.flatMap_cons,List.append_assoc] at this;rw[← List.append_assoc (numB (de[j]).1)];exact this)
        clear hac
        have hac:=hacV
        clear hacV
        generalize de[j]=x at *
        obtain⟨xm,xn⟩:=x
        dsimp only at YF0 YF1 hac hx
        have c3:wr.cell? ⟨gO,3,none⟩=some (.slice (some ad) o.descs.length cD):=(OBf.out _ hb.out).cell 3
        have x1:=XF1.out wr hb.out
        have x2:=YF0.out wr hb.out
        have HP:=zh (wd_num B B acd xm false wr hW.out (by have:=hb.out.size;have:=hB0.out;omega) (by have:=len_ok hac.out lenO.out;omega) hx.out.1)
        go_wp2_with fail
        refine HP.out.mono ?_
        rintro e W10 ⟨rfl,hW1,hk⟩
        have hbN:=zh (hb.out.trans hk)
        obtain⟨a10,ha⟩:∃ a,a=acd++numB xm:=⟨_,rfl⟩
        rw[← ha] at hW1
        have hacN:Hid (a10++(numB xn++((de.drop (j+1)).flatMap extB++((o.descs.drop (k+1)).flatMap descB++er7 o)))=encO o):=zh (by rw[ha,List.append_assoc];exact hac.out)
        have hWN:=zh hW1
        clear HP ha hW1 hk hac hb hW
        have hW:=hWN
        have hac:=hacN
        have hb:=hbN
        clear hWN hacN hbN
        clear c3 x1 x2
        have c3:W10.cell? ⟨gO,3,none⟩=some (.slice (some ad) o.descs.length cD):=(OBf.out _ hb.out).cell 3
        have x1:=XF1.out W10 hb.out
        have x2:=YF1.out W10 hb.out
        have HP:=zh (wd_num B B a10 xn false W10 hW.out (by have:=hb.out.size;have:=hB0.out;omega) (by have:=len_ok hac.out lenO.out;omega) hx.out.2)
        go_wp2_with fail
        refine HP.out.mono ?_
        rintro e W11 ⟨rfl,hW1,hk⟩
        have hbN:=zh (hb.out.trans hk)
        obtain⟨a11,ha⟩:∃ a,a=a10++numB xn:=⟨_,rfl⟩
        rw[← ha] at hW1
        have hacN:Hid (a11++((de.drop (j+1)).flatMap extB++((o.descs.drop (k+1)).flatMap descB++er7 o))=encO o):=zh (by rw[ha,List.append_assoc];exact hac.out)
        have hWN:=zh hW1
        clear HP ha hW1 hk hac hb hW
        have hW:=hWN
        have hac:=hacN
        have hb:=hbN
        clear hWN hacN hbN
        clear c3 x1 x2
        go_wp2_with fail
        exact⟨⟨j+1,a11,by go_num,by omega,hW,hac,hb⟩,by simp[intOf];omega⟩
       ·obtain rfl:j=de.length:=by omega
        have hac2:Hid (acd++((o.descs.drop (k+1)).flatMap descB++er7 o)=encO o):=zh (by have:=hac.out;simpa using this)
        clear hac
        have hac:=hac2
        clear hac2
        have c3:wr.cell? ⟨gO,3,none⟩=some (.slice (some ad) o.descs.length cD):=(OBf.out _ hb.out).cell 3
        have x1:=XF1.out wr hb.out
        go_wp2_with fail
        exact⟨⟨k+1,acd,by go_num,by omega,hW,hac,hb⟩,by simp[intOf];omega⟩
     ·obtain rfl:k=o.descs.length:=by omega
      have hac2:Hid (acc++er7 o=encO o):=zh (by have:=hac.out;simpa using this)
      clear hac
      have hac:=hac2
      clear hac2
      have c3:wr.cell? ⟨gO,3,none⟩=some (.slice AD o.descs.length cD):=(OBf.out _ hb.out).cell 3
      have c4:wr.cell? ⟨gO,4,none⟩=some (.int .i64 o.data):=(OBf.out _ hb.out).cell 4
      have HP:=zh (wd_num B B acc o.data false wr hW.out (by have:=hb.out.size;have:=hB0.out;omega) (by have:=len_ok hac.out lenO.out;omega) hWO'.out.data)
      go_wp2_with fail
      refine HP.out.mono ?_
      rintro e W12 ⟨rfl,hW1,hk⟩
      have hbN:=zh (hb.out.trans hk)
      obtain⟨a12,ha⟩:∃ a,a=acc++numB o.data:=⟨_,rfl⟩
      rw[← ha] at hW1
      have hacN:Hid (a12++er8 o=encO o):=zh (by rw[ha,List.append_assoc];exact hac.out)
      have hWN:=zh hW1
      clear HP ha hW1 hk hac hb hW c4
      have hW:=hWN
      have hac:=hacN
      have hb:=hbN
      clear hWN hacN hbN
      clear c3
      have eS:=txt_size o.strings
      have hss:o.strings.length≤32768:=hWO'.out.strings
      have c5:W12.cell? ⟨gO,5,none⟩=some (.string (txt o.strings)):=(OBf.out _ hb.out).cell 5
      have HP:=zh (wd_num B B a12 o.strings.length false W12 hW.out (by have:=hb.out.size;have:=hB0.out;omega) (by have:=len_ok hac.out lenO.out;omega) (fits_nat hWO'.out.strings (by decide)))
      go_wp2_with fail
      refine HP.out.mono ?_
      rintro e W13 ⟨rfl,hW1,hk⟩
      have hbN:=zh (hb.out.trans hk)
      obtain⟨a13,ha⟩:∃ a,a=a12++numB o.strings.length:=⟨_,rfl⟩
      rw[← ha] at hW1
      have hacN:Hid (a13++er9 o=encO o):=zh (by rw[ha,List.append_assoc];exact hac.out)
      have hWN:=zh hW1
      clear HP ha hW1 hk hac hb hW c5
      have hW:=hWN
      have hac:=hacN
      have hb:=hbN
      clear hWN hacN hbN
      have c5:W13.cell? ⟨gO,5,none⟩=some (.string (txt o.strings)):=(OBf.out _ hb.out).cell 5
      have HP:=zh (wd_raw B B a13 o.strings false W13 hW.out (by have:=hb.out.size;have:=hB0.out;omega) (by have:=len_ok hac.out lenO.out;omega) (by have:=hWO'.out.strings;omega))
      go_wp2_with fail
      refine HP.out.mono ?_
      rintro e W14 ⟨rfl,hW1,hk⟩
      have hbN:=zh (hb.out.trans hk)
      obtain⟨a14,ha⟩:∃ a,a=a13++o.strings:=⟨_,rfl⟩
      rw[← ha] at hW1
      have hacN:Hid (a14++er10 o=encO o):=zh (by rw[ha,List.append_assoc];exact hac.out)
      have hWN:=zh hW1
      clear HP ha hW1 hk hac hb hW c5
      have hW:=hWN
      have hac:=hacN
      have hb:=hbN
      clear hWN hacN hbN
      have c6:W14.cell? ⟨gO,6,none⟩=some (.slice AC o.code.length cC):=(OBf.out _ hb.out).cell 6
      have HP:=zh (wd_num B B a14 o.code.length false W14 hW.out (by have:=hb.out.size;have:=hB0.out;omega) (by have:=len_ok hac.out lenO.out;omega) (fits_nat hWO'.out.code (by decide)))
      go_wp2_with fail
      refine HP.out.mono ?_
      rintro e W15 ⟨rfl,hW1,hk⟩
      have hbN:=zh (hb.out.trans hk)
      obtain⟨a15,ha⟩:∃ a,a=a14++numB o.code.length:=⟨_,rfl⟩
      rw[← ha] at hW1
      have hacN:Hid (a15++er11 o=encO o):=zh (by rw[ha,List.append_assoc];exact hac.out)
      have hWN:=zh hW1
      clear HP ha hW1 hk hac hb hW c6
      have hW:=hWN
      have hac:=hacN
      have hb:=hbN
      clear hWN hacN hbN
      have c6:W15.cell? ⟨gO,6,none⟩=some (.slice AC o.code.length cC):=(OBf.out _ hb.out).cell 6
      go_wp2_with fail
      clear c6
      go_loopw [8] (fun i wr=>∃ (k:Nat) (acc:List UInt8),i=.int .i64 k∧k≤o.code.length∧Hid (WdIs B wr B acc false)∧Hid (acc++((o.code.drop k).flatMap wordB++er12 o)=encO o)∧Hid (Below B w1 wr)) (fun i _=>o.code.length-(intOf i).toNat)
      case atStart=>exact⟨0,a15,rfl,by omega,hW,zh (by exact hac.out),hb⟩
      case round=>
       clear hW hac hb
       obtain⟨k,acc,rfl,hkk,hW,hac,hb⟩:=hrel
       by_cases hltk:(k:Int)<(o.code.length:Int)
       ·have hltnk:k<o.code.length:=by omega
        obtain⟨-,A1,c1,e1,hc⟩:=(PBf.out w1 (Below.refl _ _)).code
        injection e1 with e1 _ e2
        subst e1 e2
        obtain⟨ad,rfl,had,q0⟩:=hc k hltnk
        have hgd:o.code.getD k 0=o.code[k]:=by simp[List.getD,hltnk]
        rw[hgd] at q0
        have XF0:Hid (∀ W,Below B w1 W→W.cell? (ad.add k)=some (.int .u32 (o.code[k]))):=zh (fun W h=>(h.cell (p:=ad.add k) (by rw[block_add];have:=hB0.out;omega)).trans q0)
        have hu:=zh (hWO'.out.words _ (List.getElem_mem hltnk))
        have hacU:Hid (acc++(wordB (o.code[k])++((o.code.drop (k+1)).flatMap wordB++er12 o))=encO o):=zh (by have:=hac.out;rw[drop_at hltnk,List.flatMap_cons,List.append_assoc] at this;exact this)
        clear hac hc hgd q0 had
        have hac:=hacU
        clear hacU
        generalize o.code[k]=x at *
        have c6:wr.cell? ⟨gO,6,none⟩=some (.slice (some ad) o.code.length cC):=(OBf.out _ hb.out).cell 6
        have x0:=XF0.out wr hb.out
        clear XF0
        have HP:=zh (wd_word B B acc x false wr hW.out (by have:=hb.out.size;have:=hB0.out;omega) (by have:=len_ok hac.out lenO.out;omega) (word_iff hu.out).1 (word_iff hu.out).2)
        go_wp2_with fail
        refine HP.out.mono ?_
        rintro e W16 ⟨rfl,hW1,hk⟩
        have hbN:=zh (hb.out.trans hk)
        obtain⟨a16,ha⟩:∃ a,a=acc++wordB x:=⟨_,rfl⟩
        rw[← ha] at hW1
        have hacN:Hid (a16++((o.code.drop (k+1)).flatMap wordB++er12 o)=encO o):=zh (by rw[ha,List.append_assoc];exact hac.out)
        have hWN:=zh hW1
        clear HP ha hW1 hk hac hb hW
        have hW:=hWN
        have hac:=hacN
        have hb:=hbN
        clear hWN hacN hbN
        clear c6 x0
        go_wp2_with fail
        exact⟨⟨k+1,a16,by go_num,by omega,hW,hac,hb⟩,by simp[intOf];omega⟩
       ·obtain rfl:k=o.code.length:=by omega
        have hac2:Hid (acc++er12 o=encO o):=zh (by have:=hac.out;simpa using this)
        clear hac
        have hac:=hac2
        clear hac2
        have c6:wr.cell? ⟨gO,6,none⟩=some (.slice AC o.code.length cC):=(OBf.out _ hb.out).cell 6
        have c7:wr.cell? ⟨gO,7,none⟩=some (.slice AE o.entries.length cE):=(OBf.out _ hb.out).cell 7
        have HP:=zh (wd_num B B acc o.entries.length false wr hW.out (by have:=hb.out.size;have:=hB0.out;omega) (by have:=len_ok hac.out lenO.out;omega) (fits_nat hWO'.out.entries (by decide)))
        go_wp2_with fail
        refine HP.out.mono ?_
        rintro e W17 ⟨rfl,hW1,hk⟩
        have hbN:=zh (hb.out.trans hk)
        obtain⟨a17,ha⟩:∃ a,a=acc++numB o.entries.length:=⟨_,rfl⟩
        rw[← ha] at hW1
        have hacN:Hid (a17++er13 o=encO o):=zh (by rw[ha,List.append_assoc];exact hac.out)
        have hWN:=zh hW1
        clear HP ha hW1 hk hac hb hW c7
        have hW:=hWN
        have hac:=hacN
        have hb:=hbN
        clear hWN hacN hbN
        clear c6
        have c7:W17.cell? ⟨gO,7,none⟩=some (.slice AE o.entries.length cE):=(OBf.out _ hb.out).cell 7
        go_wp2_with fail
        clear c7
        go_loopw [9] (fun i wr=>∃ (k:Nat) (acc:List UInt8),i=.int .i64 k∧k≤o.entries.length∧Hid (WdIs B wr B acc false)∧Hid (acc++((o.entries.drop k).flatMap numB++er14 o)=encO o)∧Hid (Below B w1 wr)) (fun i _=>o.entries.length-(intOf i).toNat)
        case atStart=>exact⟨0,a17,rfl,by omega,hW,zh (by exact hac.out),hb⟩
        case round=>
         clear hW hac hb
         obtain⟨k,acc,rfl,hkk,hW,hac,hb⟩:=hrel
         by_cases hltk:(k:Int)<(o.entries.length:Int)
         ·have hltnk:k<o.entries.length:=by omega
          obtain⟨-,A1,c1,e1,hc⟩:=(PBf.out w1 (Below.refl _ _)).entries
          injection e1 with e1 _ e2
          subst e1 e2
          obtain⟨ad,rfl,had,q0⟩:=hc k hltnk
          have hgd:o.entries.getD k 0=o.entries[k]:=by simp[List.getD,hltnk]
          rw[hgd] at q0
          have XF0:Hid (∀ W,Below B w1 W→W.cell? (ad.add k)=some (.int .i64 (o.entries[k]))):=zh (fun W h=>(h.cell (p:=ad.add k) (by rw[block_add];have:=hB0.out;omega)).trans q0)
          have hu:=zh (hWO'.out.entry _ (List.getElem_mem hltnk))
          have hacU:Hid (acc++(numB (o.entries[k])++((o.entries.drop (k+1)).flatMap numB++er14 o))=encO o):=zh (by have:=hac.out;rw[drop_at hltnk,List.flatMap_cons,List.append_assoc] at this;exact this)
          clear hac hc hgd q0 had
          have hac:=hacU
          clear hacU
          generalize o.entries[k]=x at *
          have c7:wr.cell? ⟨gO,7,none⟩=some (.slice (some ad) o.entries.length cE):=(OBf.out _ hb.out).cell 7
          have x0:=XF0.out wr hb.out
          clear XF0
          have HP:=zh (wd_num B B acc x false wr hW.out (by have:=hb.out.size;have:=hB0.out;omega) (by have:=len_ok hac.out lenO.out;omega) hu.out)
          go_wp2_with fail
          refine HP.out.mono ?_
          rintro e W18 ⟨rfl,hW1,hk⟩
          have hbN:=zh (hb.out.trans hk)
          obtain⟨a18,ha⟩:∃ a,a=acc++numB x:=⟨_,rfl⟩
          rw[← ha] at hW1
          have hacN:Hid (a18++((o.entries.drop (k+1)).flatMap numB++er14 o)=encO o):=zh (by rw[ha,List.append_assoc];exact hac.out)
          have hWN:=zh hW1
          clear HP ha hW1 hk hac hb hW
          have hW:=hWN
          have hac:=hacN
          have hb:=hbN
          clear hWN hacN hbN
          clear c7 x0
          go_wp2_with fail
          exact⟨⟨k+1,a18,by go_num,by omega,hW,hac,hb⟩,by simp[intOf];omega⟩
         ·obtain rfl:k=o.entries.length:=by omega
          have hac2:Hid (acc++er14 o=encO o):=zh (by have:=hac.out;simpa using this)
          clear hac
          have hac:=hac2
          clear hac2
          have c7:wr.cell? ⟨gO,7,none⟩=some (.slice AE o.entries.length cE):=(OBf.out _ hb.out).cell 7
          have c8:wr.cell? ⟨gO,8,none⟩=some (.int .i64 o.calls):=(OBf.out _ hb.out).cell 8
          have HP:=zh (wd_num B B acc o.calls false wr hW.out (by have:=hb.out.size;have:=hB0.out;omega) (by have:=len_ok hac.out lenO.out;omega) hWO'.out.calls)
          go_wp2_with fail
          refine HP.out.mono ?_
          rintro e W19 ⟨rfl,hW1,hk⟩
          have hbN:=zh (hb.out.trans hk)
          obtain⟨a19,ha⟩:∃ a,a=acc++numB o.calls:=⟨_,rfl⟩
          rw[← ha] at hW1
          have hacN:Hid (a19++er15 o=encO o):=zh (by rw[ha,List.append_assoc];exact hac.out)
          have hWN:=zh hW1
          clear HP ha hW1 hk hac hb hW c8
          have hW:=hWN
          have hac:=hacN
          have hb:=hbN
          clear hWN hacN hbN
          clear c7
          have hacE:Hid (a19++(numB o.places++[])=encO o):=zh (by rw[List.append_nil];exact hac.out)
          clear hac
          have hac:=hacE
          clear hacE
          have c9:W19.cell? ⟨gO,9,none⟩=some (.int .i64 o.places):=(OBf.out _ hb.out).cell 9
          have HP:=zh (wd_num B B a19 o.places false W19 hW.out (by have:=hb.out.size;have:=hB0.out;omega) (by have:=len_ok hac.out lenO.out;omega) hWO'.out.places)
          go_wp2_with fail
          refine HP.out.mono ?_
          rintro e W20 ⟨rfl,hW1,hk⟩
          have hbN:=zh (hb.out.trans hk)
          obtain⟨a20,ha⟩:∃ a,a=a19++numB o.places:=⟨_,rfl⟩
          rw[← ha] at hW1
          have hacN:Hid (a20++[]=encO o):=zh (by rw[ha,List.append_assoc];exact hac.out)
          have hWN:=zh hW1
          clear HP ha hW1 hk hac hb hW c9
          have hW:=hWN
          have hac:=hacN
          have hb:=hbN
          clear hWN hacN hbN
          obtain rfl:a20=encO o:=by have:=hac.out;rwa [List.append_nil] at this
          have HP:=zh (wd_bytes B B (encO o) _ hW.out (by have:=lenO.out;omega))
          clear hac hW
          have hres:Hid ((if 131072<(encO o).length then Value.tuple #[.string (txt []),.int .i64 2] else .tuple #[.string (txt (encO o)),.int .i64 0])=encRes true o):=zh rfl
          by_cases hlong:131072<(encO o).length
          ·rw[if_pos hlong] at HP hres
           clear hlong
           go_wp2_with fail
           refine HP.out.mono ?_
           rintro e w9 ⟨rfl,rfl⟩
           go_wp2_with fail
           go_ret2
           rw[← hres.out]
           exact⟨rfl,by rw[hgg.out];exact BB.out.trans (hb.out.mono hBl)⟩
          ·rw[if_neg hlong] at HP hres
           clear hlong
           generalize txt (encO o)=tE at *
           go_wp2_with fail
           refine HP.out.mono ?_
           rintro e w9 ⟨rfl,rfl⟩
           go_wp2_with fail
           go_ret2
           rw[← hres.out]
           exact⟨rfl,by rw[hgg.out];exact BB.out.trans (hb.out.mono hBl)⟩
end Go.Proofs.YtceflhffilldeaaGreat
