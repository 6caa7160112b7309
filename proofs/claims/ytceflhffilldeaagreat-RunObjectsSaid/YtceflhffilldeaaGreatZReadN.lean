/-
  Joined: ZReadN.
-/
import Derived.Test.YtceflhffilldeaaGreatZRead
set_option linter.unusedVariables false
set_option linter.unusedSimpArgs false
set_option maxRecDepth 100000
set_option maxHeartbeats 16000000
namespace Go.Proofs.YtceflhffilldeaaGreat
open Go.RowKit ObjL Bw
theorem i64_or_lo (x y:Int) (k:Nat) (hk:k≤40) (hx:0≤x) (hx2:x<2 ^ k) (hm:y % 2 ^ k=0) (hy:-1152921504606846976≤y) (hy':y<1152921504606846976):bits .or .i64 x y=x+y:=by
 show IntKind.i64.wrap (((BitVec.ofInt 64 x ||| BitVec.ofInt 64 y).toNat:Nat):Int)=_
 rw[BitVec.toNat_or,BitVec.toNat_ofInt,BitVec.toNat_ofInt]
 have hp:(2:Int) ^ k≤2 ^ 40:=pow_mono hk
 have hd:(2:Int) ^ k ∣ 2 ^ 64:=by
  refine⟨2 ^ (64-k),?_⟩
  rw[← Int.pow_add]
  congr 1
  omega
 obtain⟨X,rfl⟩:=Int.eq_ofNat_of_zero_le hx
 obtain⟨Y,hY⟩:∃ Y:Nat,y % ((2 ^ 64:Nat):Int)=Y:=⟨(y % ((2 ^ 64:Nat):Int)).toNat,by omega⟩
 have e1:((X:Int) % ((2 ^ 64:Nat):Int)).toNat=X:=by omega
 rw[e1,hY,Int.toNat_natCast,Nat.or_comm]
 have hYm:Y % 2 ^ k=0:=by
  have h1:(Y:Int) % 2 ^ k=0:=by
   rw[← hY]
   have h2:(((2 ^ 64:Nat):Int))=2 ^ 64:=by norm_cast
   rw[h2,Int.emod_emod_of_dvd _ hd]
   exact hm
  rw[← pow_cast] at h1
  exact_mod_cast h1
 have hXk:X<2 ^ k:=by
  rw[← pow_cast] at hx2
  exact_mod_cast hx2
 rw[nat_join k Y X hYm hXk,IntKind.wrap_i64]
 omega
theorem and_lo (c:Nat) (h:c<256):bits .and .u8 (c:Int) 127=if c<128 then (c:Int) else (c:Int)-128:=by
 have key:∀ k:Fin 256,bits .and .u8 ((k.val:Nat):Int) 127=if k.val<128 then (k.val:Int) else (k.val:Int)-128:=by decide +kernel
 exact key ⟨c,h⟩
theorem and_64 (c:Nat) (h:c<128):bits .and .u8 (c:Int) 64=if c<64 then 0 else 64:=by
 have key:∀ k:Fin 128,bits .and .u8 ((k.val:Nat):Int) 64=if k.val<64 then 0 else 64:=by decide +kernel
 exact key ⟨c,h⟩
def comb (k:Nat) (y:Int) (g:Option (Int×Nat)):Option (Int×Nat):=g.map fun v=>(y+wide7 k*v.1,v.2+k)
theorem comb_zero (g:Option (Int×Nat)):comb 0 0 g=g:=by
 cases g with
 | none=>rfl
 | some v=>simp[comb,wide7]
theorem comb_on {l:List UInt8} {k:Nat} {y:Int} {f:Nat} (hk:k<l.length) (hc:¬ (l[k]).toNat<128):comb k y (grp (f+1) (l.drop k))=comb (k+1) (y+wide7 k*((l[k]).toNat-128)) (grp f (l.drop (k+1))):=by
 rw[List.drop_eq_getElem_cons hk,grp,if_neg hc]
 cases grp f (l.drop (k+1)) with
 | none=>rfl
 | some v=>
  obtain⟨v,j⟩:=v
  simp only[comb,Option.map_some,wide7]
  congr 2
  ·generalize wide7 k=q
   rw[Int.mul_add,← Int.add_assoc]
   congr 1
   rw[← Int.mul_assoc,Int.mul_comm q 128]
  ·omega
theorem comb_end {l:List UInt8} {k:Nat} {y:Int} {f:Nat} (hk:k<l.length) (hc:(l[k]).toNat<128):comb k y (grp (f+1) (l.drop k))=some (y+wide7 k*(if (l[k]).toNat<64 then ((l[k]).toNat:Int) else (l[k]).toNat-128),k+1):=by
 rw[List.drop_eq_getElem_cons hk,grp,if_pos hc]
 simp[comb,Nat.add_comm]
theorem comb_none {l:List UInt8} {k:Nat} {y:Int} {f:Nat} (hk:l.length≤k):comb k y (grp f (l.drop k))=none:=by
 rw[List.drop_eq_nil_of_le hk]
 cases f<;>rfl
theorem wide7_le (k:Nat) (h:k≤5):wide7 k≤34359738368:=by
 have:k=0∨k=1∨k=2∨k=3∨k=4∨k=5:=by omega
 rcases this with rfl | rfl | rfl | rfl | rfl | rfl<;>decide
theorem num_none {l:List UInt8} (h:grp 5 l=none):rNum l=none:=by unfold rNum;rw[h]
theorem num_bad {l:List UInt8} {v:Int} {k:Nat} (h:grp 5 l=some (v,k)) (hb:¬ (fits v=true∧(numB v).length=k)):rNum l=none:=by
 unfold rNum;rw[h];dsimp only;rw[if_neg hb]
theorem num_ok {l:List UInt8} {v:Int} {k:Nat} (h:grp 5 l=some (v,k)) (hb:fits v=true∧(numB v).length=k):rNum l=some (v,l.drop k):=by
 unfold rNum;rw[h];dsimp only;rw[if_pos hb]
theorem fits_nOk {v:Int} (h:fits v=true):nOk v:=by
 unfold fits at h
 simp only[Bool.and_eq_true,decide_eq_true_eq] at h
 exact h
theorem txt_at {s:List UInt8} {k:Nat} (hk:k<s.length) (h:k<(txt s).size):(txt s)[k]'h=s[k]:=by
 first | rfl | (show ((txt s).data[k]'_)=_;first | rfl | (simp[txt];done) | (simp[txt];rfl))
theorem rd_num (p:Nat) (s:List UInt8) (st:Lft) (w:World) (h:RdIs rdT w p s st) (hs:s.length≤1000000) :
  Calls Tryz.prog 138 #[.pointer (some ⟨p,0,none⟩)] w (RdEnd rdT p s rNum (Value.int .i64) nOk st w):=by
 obtain⟨a,bad,hB,ha,rfl⟩:=h
 have c0:=hB.cell 0
 have c1:=hB.cell 1
 have c2:=hB.cell 2
 simp only[gAr,gC0,gCs] at c0 c1 c2
 have hss:=txt_size s
 have hBH:=zh hB
 clear hB
 cases bad
 ·have e1:=txt_part s a s.length
  rw[List.take_length] at e1
  have g1:(0:Int)≤(a:Int):=by omega
  have g2:(a:Int)≤(s.length:Int):=by omega
  have hld:(s.drop a).length=s.length-a:=List.length_drop
  go_enter Tryz.func138,Tryz.ntmps138
  go_wp2_with fail
  go_quiet (fail)
  have hdr:=zh (show ∀ k,(s.drop a).drop k=s.drop (a+k) from fun k=>List.drop_drop)
  have hlda:=zh (show (s.drop a).length+a=s.length by omega)
  clear hld e1 c2 c1 c0 hss g1 g2
  have hB3:=zh (hBH.out.drewN nq)
  have hK3:=zh ((RdK.refl p w).drewN nq)
  generalize w.drewN nq=W3 at *
  clear hBH
  generalize s.drop a=l at *
  obtain⟨tl,htl,hll,HT⟩:∃ tl:ByteArray,txt l=tl∧tl.size=l.length∧∀ k (hk:k<l.length) (h:k<tl.size),tl[k]'h=l[k]:=⟨txt l,rfl,txt_size l,fun k hk h=>txt_at hk h⟩
  rw[htl]
  clear htl
  have HT2:=zh HT
  clear HT
  go_wp2_with fail
  go_loopw [4,5] (fun n m wr=>∃ (k:Nat) (y:Int),n=.int .i64 y∧m=.int .i64 k∧k≤5∧k≤l.length∧wr=W3∧0≤y∧y<wide7 k∧Hid (grp 5 l=comb k y (grp (5-k) (l.drop k)))) (fun _ m _=>5-(intOf m).toNat)
  case atStart=>exact⟨0,0,rfl,rfl,by omega,by omega,rfl,by omega,by decide,zh (by rw[comb_zero];rfl)⟩
  case round=>
   obtain⟨k,y,rfl,rfl,hk5,hkl,rfl,hy0,hy1,hg⟩:=hrel
   have c0:wr.cell? ⟨p,0,none⟩=some (.string (txt s)):=hB3.out.cell 0
   have c1:wr.cell? ⟨p,1,none⟩=some (.int .i64 (a:Int)):=hB3.out.cell 1
   have c2:wr.cell? ⟨p,2,none⟩=some (.bool false):=hB3.out.cell 2
   have f1:=hB3.out.frozen 1
   have f2:=hB3.out.frozen 2
   have hpl:=zh hB3.out.lt
   have hbadEnd:Hid (rNum l=none→RdEnd rdT p s rNum (Value.int .i64) nOk (some l) w (.returned (.int .i64 0)) (wr.setCell ⟨p,2,none⟩ (.bool true))):=zh (fun h=>RdEnd.mk 0 none rfl (Took.no h) ⟨a,true,hB3.out.set_ 2 _,ha,rfl⟩ (hK3.out.set_ 2 _) ⟨by decide,by decide⟩)
   have hbadEnd2:Hid (∀ W,Below wr.heap.size wr W→rNum l=none→RdEnd rdT p s rNum (Value.int .i64) nOk (some l) w (.returned (.int .i64 0)) (W.setCell ⟨p,2,none⟩ (.bool true))):=zh (fun W hW h=>RdEnd.mk 0 none rfl (Took.no h) ⟨a,true,(hB3.out.below hW hB3.out.lt).set_ 2 _,ha,rfl⟩ ((hK3.out.trans (RdK.of_below hW)).set_ 2 _) ⟨by decide,by decide⟩)
   by_cases hlt:(k:Int)<(l.length:Int)
   ·by_cases h5:(k:Int)<5
    ·have hkn:k<l.length:=by omega
     have hik:∀ h,tl[k]'h=l[k]:=fun h=>HT2.out k hkn h
     have hcb:=(l[k]).toNat_lt
     have hon:=fun h=>zh (comb_on (y:=y) (f:=4-k) hkn h)
     have hen:=fun h=>zh (comb_end (y:=y) (f:=4-k) hkn h)
     have hf1:5-k=4-k+1:=by omega
     rw[hf1] at hg
     have hand:=and_lo (l[k]).toNat hcb
     have h64:=and_64 (l[k]).toNat
     generalize l[k]=c at *
     have hwb:=zh (wide7_le k (by omega))
     have hwp:=zh (wide7_pos k)
     obtain⟨D,hD⟩:∃ D:Int,(if c.toNat<128 then (c.toNat:Int) else (c.toNat:Int)-128)=D:=⟨_,rfl⟩
     rw[hD] at hand
     have hD0:0≤D∧D<128:=by rw[← hD];split<;>omega
     have hDH:=zh hD
     have hvb:=zh (show 0≤y+wide7 k*D∧y+wide7 k*D<wide7 (k+1) from by
      have h1:=Int.mul_nonneg (Int.le_of_lt (wide7_pos k)) hD0.1
      have h2:=Int.mul_le_mul_of_nonneg_left (show D≤127 by omega) (Int.le_of_lt (wide7_pos k))
      simp only[wide7]
      omega)
     clear hD hf1
     go_upto_region 7 with fail
     go_cut [4] from 35 to 42 (fun n wx=>n=.int .i64 (y+wide7 k*D)∧wx=wr)
     case first=>
      clear hg hon hen h64 hbadEnd hbadEnd2 hwb hwp hvb
      have hk:k=0∨k=1∨k=2∨k=3∨k=4:=by omega
      rcases hk with rfl | rfl | rfl | rfl | rfl
      ·simp only[wide7] at hy1 ⊢
       have hor:bits .or .i64 y (D)=y+1*D:=by rw[i64_or_lo y _ 0 (by decide) hy0 (by omega) (by omega) (by omega) (by omega)];omega
       go_wp2_with fail
       go_meet
       exact⟨congrArg (Value.int .i64) (by simp only[wide7];omega),rfl⟩
      ·simp only[wide7] at hy1 ⊢
       have hor:bits .or .i64 y (D*128)=y+128*D:=by rw[i64_or_lo y _ 7 (by decide) hy0 (by omega) (by omega) (by omega) (by omega)];omega
       go_wp2_with fail
       go_meet
       exact⟨congrArg (Value.int .i64) (by simp only[wide7];omega),rfl⟩
      ·simp only[wide7] at hy1 ⊢
       have hor:bits .or .i64 y (D*16384)=y+16384*D:=by rw[i64_or_lo y _ 14 (by decide) hy0 (by omega) (by omega) (by omega) (by omega)];omega
       go_wp2_with fail
       go_meet
       exact⟨congrArg (Value.int .i64) (by simp only[wide7];omega),rfl⟩
      ·simp only[wide7] at hy1 ⊢
       have hor:bits .or .i64 y (D*2097152)=y+2097152*D:=by rw[i64_or_lo y _ 21 (by decide) hy0 (by omega) (by omega) (by omega) (by omega)];omega
       go_wp2_with fail
       go_meet
       exact⟨congrArg (Value.int .i64) (by simp only[wide7];omega),rfl⟩
      ·simp only[wide7] at hy1 ⊢
       have hor:bits .or .i64 y (D*268435456)=y+268435456*D:=by rw[i64_or_lo y _ 28 (by decide) hy0 (by omega) (by omega) (by omega) (by omega)];omega
       go_wp2_with fail
       go_meet
       exact⟨congrArg (Value.int .i64) (by simp only[wide7];omega),rfl⟩
     case rest=>
      obtain⟨rfl,rfl⟩:=hcut
      have c0:wc.cell? ⟨p,0,none⟩=some (.string (txt s)):=hB3.out.cell 0
      have c1:wc.cell? ⟨p,1,none⟩=some (.int .i64 (a:Int)):=hB3.out.cell 1
      have c2:wc.cell? ⟨p,2,none⟩=some (.bool false):=hB3.out.cell 2
      have f1:=hB3.out.frozen 1
      have f2:=hB3.out.frozen 2
      by_cases hc:128≤(c.toNat:Int)
      ·have hDc:D=(c.toNat:Int)-128:=by rw[← hDH.out,if_neg (by omega)]
       have hnx:=zh (hg.out.trans (hon (by omega)).out)
       rw[← hDc] at hnx
       have hnx2:Hid (grp 5 l=comb (k+1) (y+wide7 k*D) (grp (5-(k+1)) (l.drop (k+1)))):=zh (by have:=hnx.out;rw[show 5-(k+1)=4-k by omega];exact this)
       clear hg hon hen h64 hbadEnd hbadEnd2 hnx hDc
       generalize y+wide7 k*D=v1 at *
       go_wp2_with fail
       exact⟨⟨k+1,v1,by first | trivial | rfl,by first | trivial | rfl | go_num,by omega,by omega,by first | trivial | rfl,hvb.out.1,hvb.out.2,hnx2⟩,by simp[intOf];omega⟩
      ·have hc':¬ 128≤(c.toNat:Int):=hc
       have hDc:D=(c.toNat:Int):=by rw[← hDH.out,if_pos (by omega)]
       have hend:=zh (hg.out.trans (hen (by omega)).out)
       have h64:=h64 (by omega)
       clear hg hon hen hc
       by_cases hc6:c.toNat<64
       ·rw[if_pos hc6] at h64 hend
        rw[← hDc] at hend
        have hv64:-1152921504606846976≤y+wide7 k*D∧y+wide7 k*D≤1152921504606846976:=by have:=hvb.out;have:=hwb.out;have h2:wide7 (k+1)=128*wide7 k:=rfl;omega
        clear hDc hvb
        generalize y+wide7 k*D=v at *
        go_upto_region 12 with fail
        have FT:=fun W=>zh (bits_fits v 32 W (by omega) (by omega))
        rw[fits32] at FT
        cases hft:fits v
        ·have hres:=zh (num_bad hend.out (fun h=>by rw[hft] at h;cases h.1))
         rw[hft] at FT
         clear hft
         go_wp2_with fail
         refine(FT _).out.mono ?_
         rintro e w1 ⟨rfl,rfl⟩
         go_wp2_with fail
         go_ret
         exact hbadEnd.out hres.out
        ·have CP:=zh (rw_compact v wc hft)
         rw[hft] at FT
         have hfH:=zh hft
         have hsz:=txt_size (numB v)
         by_cases hlen:(numB v).length=k+1
         ·have hres:=zh (num_ok hend.out ⟨hfH.out,hlen⟩)
          have hlen':((numB v).length:Int)=(k:Int)+1:=by omega
          clear hft hlen hbadEnd hbadEnd2
          go_wp2_with fail
          refine(FT _).out.mono ?_
          rintro e w1 ⟨rfl,rfl⟩
          go_wp2_with fail
          refine CP.out.mono ?_
          rintro e w2 ⟨rfl,hb2⟩
          have B2:=zh (hB3.out.below hb2 hpl.out)
          have K2:=zh (hK3.out.trans (RdK.of_below hb2))
          have c0:w2.cell? ⟨p,0,none⟩=some (.string (txt s)):=B2.out.cell 0
          have c1:w2.cell? ⟨p,1,none⟩=some (.int .i64 (a:Int)):=B2.out.cell 1
          have c2:w2.cell? ⟨p,2,none⟩=some (.bool false):=B2.out.cell 2
          have f1:=B2.out.frozen 1
          have f2:=B2.out.frozen 2
          clear hb2
          go_wp2_with fail
          go_ret
          exact RdEnd.mk v (some (s.drop (a+(k+1)))) rfl (Took.yes (hres.out.trans (by rw[hdr.out]))) ⟨a+(k+1),false,B2.out.set_ 1 _,by have:=hlda.out;omega,rfl⟩ (K2.out.set_ 1 _) (fits_nOk hfH.out)
         ·have hres:=zh (num_bad hend.out (fun h=>hlen h.2))
          have hlen2:¬ ((numB v).length:Int)=(k:Int)+1:=by omega
          clear hft hlen
          go_wp2_with fail
          refine(FT _).out.mono ?_
          rintro e w1 ⟨rfl,rfl⟩
          go_wp2_with fail
          refine CP.out.mono ?_
          rintro e w2 ⟨rfl,hb2⟩
          have B2:=zh (hB3.out.below hb2 hpl.out)
          have c0:w2.cell? ⟨p,0,none⟩=some (.string (txt s)):=B2.out.cell 0
          have c1:w2.cell? ⟨p,1,none⟩=some (.int .i64 (a:Int)):=B2.out.cell 1
          have c2:w2.cell? ⟨p,2,none⟩=some (.bool false):=B2.out.cell 2
          have f1:=B2.out.frozen 1
          have f2:=B2.out.frozen 2
          have hb2:=zh hb2
          clear B2
          go_wp2_with fail
          go_ret
          exact hbadEnd2.out _ hb2.out hres.out
       ·rw[if_neg hc6] at h64 hend
        rw[← hDc] at hend
        have hv64:-1152921504606846976≤y+wide7 k*(D-128)∧y+wide7 k*(D-128)≤1152921504606846976:=by have:=hvb.out;have:=hwb.out;have:=hwp.out;have h2:wide7 (k+1)=128*wide7 k:=rfl;rw[Int.mul_sub];omega
        have hvv:y+wide7 k*(D-128)=y+wide7 k*D-wide7 (k+1):=by rw[Int.mul_sub];simp only[wide7];omega
        have hvbH:=hvb.out
        have hvvH:=zh hvv
        clear hDc hvb hvv
        go_upto_region 11 with fail
        go_cut [4] from 50 to 54 (fun n wx=>n=.int .i64 (y+wide7 k*(D-128))∧wx=wc)
        case first=>
         generalize y+wide7 k*D=v1 at *
         clear hend hbadEnd hbadEnd2 hwb hwp hv64
         have hk:k=0∨k=1∨k=2∨k=3∨k=4:=by omega
         rcases hk with rfl | rfl | rfl | rfl | rfl
         ·simp only[wide7] at hvbH ⊢
          have hor:bits .or .i64 v1 (-128)=v1-128:=by rw[i64_or_lo v1 _ 7 (by decide) (by omega) (by omega) (by omega) (by omega) (by omega)];omega
          go_wp2_with fail
          go_meet
          exact⟨congrArg (Value.int .i64) (by rw[hvvH.out];simp only[wide7];omega),rfl⟩
         ·simp only[wide7] at hvbH ⊢
          have hor:bits .or .i64 v1 (-16384)=v1-16384:=by rw[i64_or_lo v1 _ 14 (by decide) (by omega) (by omega) (by omega) (by omega) (by omega)];omega
          go_wp2_with fail
          go_meet
          exact⟨congrArg (Value.int .i64) (by rw[hvvH.out];simp only[wide7];omega),rfl⟩
         ·simp only[wide7] at hvbH ⊢
          have hor:bits .or .i64 v1 (-2097152)=v1-2097152:=by rw[i64_or_lo v1 _ 21 (by decide) (by omega) (by omega) (by omega) (by omega) (by omega)];omega
          go_wp2_with fail
          go_meet
          exact⟨congrArg (Value.int .i64) (by rw[hvvH.out];simp only[wide7];omega),rfl⟩
         ·simp only[wide7] at hvbH ⊢
          have hor:bits .or .i64 v1 (-268435456)=v1-268435456:=by rw[i64_or_lo v1 _ 28 (by decide) (by omega) (by omega) (by omega) (by omega) (by omega)];omega
          go_wp2_with fail
          go_meet
          exact⟨congrArg (Value.int .i64) (by rw[hvvH.out];simp only[wide7];omega),rfl⟩
         ·simp only[wide7] at hvbH ⊢
          have hor:bits .or .i64 v1 (-34359738368)=v1-34359738368:=by rw[i64_or_lo v1 _ 35 (by decide) (by omega) (by omega) (by omega) (by omega) (by omega)];omega
          go_wp2_with fail
          go_meet
          exact⟨congrArg (Value.int .i64) (by rw[hvvH.out];simp only[wide7];omega),rfl⟩
        case rest=>
         obtain⟨rfl,hww⟩:=hcut
         subst hww
         clear hvvH hvbH
         generalize y+wide7 k*(D-128)=v at *
         have FT:=fun W=>zh (bits_fits v 32 W (by omega) (by omega))
         rw[fits32] at FT
         cases hft:fits v
         ·have hres:=zh (num_bad hend.out (fun h=>by rw[hft] at h;cases h.1))
          rw[hft] at FT
          clear hft
          go_wp2_with fail
          refine(FT _).out.mono ?_
          rintro e w1 ⟨rfl,rfl⟩
          go_wp2_with fail
          go_ret
          exact hbadEnd.out hres.out
         ·have CP:=zh (rw_compact v wc hft)
          rw[hft] at FT
          have hfH:=zh hft
          have hsz:=txt_size (numB v)
          by_cases hlen:(numB v).length=k+1
          ·have hres:=zh (num_ok hend.out ⟨hfH.out,hlen⟩)
           have hlen':((numB v).length:Int)=(k:Int)+1:=by omega
           clear hft hlen hbadEnd hbadEnd2
           go_wp2_with fail
           refine(FT _).out.mono ?_
           rintro e w1 ⟨rfl,rfl⟩
           go_wp2_with fail
           refine CP.out.mono ?_
           rintro e w2 ⟨rfl,hb2⟩
           have B2:=zh (hB3.out.below hb2 hpl.out)
           have K2:=zh (hK3.out.trans (RdK.of_below hb2))
           have c0:w2.cell? ⟨p,0,none⟩=some (.string (txt s)):=B2.out.cell 0
           have c1:w2.cell? ⟨p,1,none⟩=some (.int .i64 (a:Int)):=B2.out.cell 1
           have c2:w2.cell? ⟨p,2,none⟩=some (.bool false):=B2.out.cell 2
           have f1:=B2.out.frozen 1
           have f2:=B2.out.frozen 2
           clear hb2
           go_wp2_with fail
           go_ret
           exact RdEnd.mk v (some (s.drop (a+(k+1)))) rfl (Took.yes (hres.out.trans (by rw[hdr.out]))) ⟨a+(k+1),false,B2.out.set_ 1 _,by have:=hlda.out;omega,rfl⟩ (K2.out.set_ 1 _) (fits_nOk hfH.out)
          ·have hres:=zh (num_bad hend.out (fun h=>hlen h.2))
           have hlen2:¬ ((numB v).length:Int)=(k:Int)+1:=by omega
           clear hft hlen
           go_wp2_with fail
           refine(FT _).out.mono ?_
           rintro e w1 ⟨rfl,rfl⟩
           go_wp2_with fail
           refine CP.out.mono ?_
           rintro e w2 ⟨rfl,hb2⟩
           have B2:=zh (hB3.out.below hb2 hpl.out)
           have c0:w2.cell? ⟨p,0,none⟩=some (.string (txt s)):=B2.out.cell 0
           have c1:w2.cell? ⟨p,1,none⟩=some (.int .i64 (a:Int)):=B2.out.cell 1
           have c2:w2.cell? ⟨p,2,none⟩=some (.bool false):=B2.out.cell 2
           have f1:=B2.out.frozen 1
           have f2:=B2.out.frozen 2
           have hb2:=zh hb2
           clear B2
           go_wp2_with fail
           go_ret
           exact hbadEnd2.out _ hb2.out hres.out
    ·obtain rfl:k=5:=by omega
     have hres:=zh (num_none (hg.out.trans (show comb 5 y (grp 0 (l.drop 5))=none from rfl)))
     clear hg
     go_wp2_with fail
     go_ret
     exact hbadEnd.out hres.out
   ·have hres:=zh (num_none (hg.out.trans (comb_none (by omega))))
    clear hg
    go_wp2_with fail
    go_ret
    exact hbadEnd.out hres.out
 ·go_enter Tryz.func138,Tryz.ntmps138
  go_wp2_with fail
  go_ret
  exact RdEnd.mk 0 none rfl (Took.bad _ _) ⟨a,true,hBH.out,ha,rfl⟩ (RdK.refl _ _) ⟨by decide,by decide⟩
end Go.Proofs.YtceflhffilldeaaGreat
namespace Go.Proofs.YtceflhffilldeaaGreat
open Go.RowKit ObjL Bw
def EachEnd (J:Int→Nat→Lft→World→Prop) (w:World):Prop:=∃ n k st,nOk n∧J n k st w∧k≤n.toNat∧(st=none∨k=n.toNat)
theorem tk_each (f:FuncId) (caps:Array Value) (tk p:Nat) (s:List UInt8) (st0:Lft) (w:World) (J:Int→Nat→Lft→World→Prop)
  (hcf:∀ W,Sem.run Tryz.prog (callFunc f caps) W=.ok (.enter f caps) W) (hs:s.length≤1000000) (h0:RdIs rdT w p s st0) (hc:w.cell? ⟨tk,0,none⟩=some (.pointer (some ⟨p,0,none⟩)))
  (hJ:∀ n k st W,J n k st W→RdIs rdT W p s st∧W.cell? ⟨tk,0,none⟩=some (.pointer (some ⟨p,0,none⟩)))
  (start:∀ n st W,Took rNum st0 n st→nOk n→RdIs rdT W p s st→RdK p w W→J n 0 st W)
  (step:∀ (n:Int) (k:Nat) r W,nOk n→(k:Int)<n→J n k (some r) W→Calls Tryz.prog f caps W fun e W'=>e=.returned (.tuple #[])∧∃ st',J n (k+1) st' W') :
  Calls Tryz.prog 135 #[.pointer (some ⟨tk,0,none⟩),.func (.func f) #[] caps] w fun e w'=>e=.returned (.tuple #[])∧EachEnd J w':=by
 have NM:=zh (rd_num p s st0 w h0 hs)
 have hJ:=zh hJ
 have start:=zh start
 have step:=zh step
 clear h0
 go_enter Tryz.func135,Tryz.ntmps135
 go_wp2_with fail
 refine NM.out.mono ?_
 rintro e w1 ⟨n,st1,rfl,h1,h2,h3,h4⟩
 have J0:=zh (start.out n st1 w1 h1 h4 h2 h3)
 have hn:=zh h4
 clear h1 h2 h3 h4 NM hc
 go_wp2_with fail
 go_loopw [4] (fun i wr=>∃ (k:Nat) (st:Lft),i=.int .i64 (n-k)∧k≤n.toNat∧Hid (J n k st wr)) (fun i _=>(intOf i).toNat)
 case atStart=>exact⟨0,st1,by simp,by omega,J0⟩
 case round=>
  clear J0
  obtain⟨k,st,rfl,hk,hJk⟩:=hrel
  have c0:=(hJ.out _ _ _ _ hJk.out).2
  have BD:=zh (rd_bad p s st wr (hJ.out _ _ _ _ hJk.out).1)
  have hnb:=hn.out
  unfold nOk at hnb
  by_cases hlt:0<n-(k:Int)
  ·cases st with
   | none=>
    go_wp2_with fail
    refine BD.out.mono ?_
    rintro e w2 ⟨rfl,rfl⟩
    go_wp2_with fail
    go_end0
    exact⟨rfl,n,k,none,hn.out,hJk.out,hk,Or.inl rfl⟩
   | some r=>
    have ST:=zh (step.out n k r wr hn.out (by omega) hJk.out)
    go_wp2_with fail
    refine BD.out.mono ?_
    rintro e w2 ⟨rfl,rfl⟩
    go_wp2_with fail
    refine ST.out.mono ?_
    rintro e w3 ⟨rfl,st',hJ3⟩
    have hJ3:=zh hJ3
    go_wp2_with fail
    exact⟨⟨k+1,st',by first | trivial | rfl | go_num | (congr 1;push_cast;omega),by omega,hJ3⟩,by simp only[intOf];omega⟩
  ·have hkn:k=n.toNat:=by omega
   go_wp2_with fail
   go_end0
   exact⟨rfl,n,k,st,hn.out,hJk.out,hk,Or.inr hkn⟩
end Go.Proofs.YtceflhffilldeaaGreat
