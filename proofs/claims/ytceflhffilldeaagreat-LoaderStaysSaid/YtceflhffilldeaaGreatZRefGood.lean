/-
  Joined: ZRefGood.
-/
import Derived.Test.YtceflhffilldeaaGreatZLinks
import Derived.Test.YtceflhffilldeaaGreatZRiscRefDec
set_option linter.unusedVariables false
set_option linter.unusedSimpArgs false
set_option maxRecDepth 100000
set_option maxHeartbeats 16000000
namespace Go.Proofs.YtceflhffilldeaaGreat
open Go.RowKit ObjL
theorem bound_cases {o:Ob} (h:¬ ((0≤o.data∧o.data≤4096)∧o.strings.length≤32768∧o.strings.length % 4=0∧o.code.length≤8192∧1≤o.entries.length∧o.entries.length≤64)) :
  o.data<0∨(¬ o.data<0∧4096<o.data)∨(¬ o.data<0∧¬ 4096<o.data∧(32768:Int)<o.strings.length)∨(¬ o.data<0∧¬ 4096<o.data∧¬ (32768:Int)<o.strings.length∧(o.strings.length:Int) % 4≠0) ∨
  (¬ o.data<0∧¬ 4096<o.data∧¬ (32768:Int)<o.strings.length∧(o.strings.length:Int) % 4=0∧(8192:Int)<o.code.length) ∨
  (¬ o.data<0∧¬ 4096<o.data∧¬ (32768:Int)<o.strings.length∧(o.strings.length:Int) % 4=0∧¬ (8192:Int)<o.code.length∧(o.entries.length:Int)<1) ∨
  (¬ o.data<0∧¬ 4096<o.data∧¬ (32768:Int)<o.strings.length∧(o.strings.length:Int) % 4=0∧¬ (8192:Int)<o.code.length∧¬ (o.entries.length:Int)<1∧(64:Int)<o.entries.length):=by omega
theorem ref23_good (o:Ob) (vU vD vC vE:Value) (w:World) (hp:ObParts w o vU vD vC vE) (hf:ObFine o) :
  Calls Tryz.prog 30 #[.agg (obCells o vU vD vC vE)] w fun e w'=>e=.returned (.bool (goodO o))∧Below w.heap.size w w':=by
 have hp':=zh hp
 obtain⟨hU,hD,hC,hE⟩:=hp
 obtain⟨-,AU,cU,rfl,-⟩:=hU
 obtain⟨-,AD,cD,rfl,-⟩:=hD
 obtain⟨-,AE,cE,rfl,-⟩:=hE
 obtain⟨-,AC,cC,rfl,-⟩:=hC
 have hfH:=zh hf
 have hw:=zh hf.code
 clear hf
 go_enter Tryz.func30,Tryz.ntmps30
 go_upto_region 1 with fail
 have L1:=zh (Blk.new w 48 (obCells o (.slice AU o.uses.length cU) (.slice AD o.descs.length cD) (.slice AC o.code.length cC) (.slice AE o.entries.length cE)))
 have B1:=zh ((Below.refl w.heap.size w).alloc (Nat.le_refl _) (.cells (obCells o (.slice AU o.uses.length cU) (.slice AD o.descs.length cD) (.slice AC o.code.length cC) (.slice AE o.entries.length cE)) 48))
 have z1:w.heap.size<(w.alloc (.cells (obCells o (.slice AU o.uses.length cU) (.slice AD o.descs.length cD) (.slice AC o.code.length cC) (.slice AE o.entries.length cE)) 48)).heap.size:=by simp
 generalize w.alloc (.cells (obCells o (.slice AU o.uses.length cU) (.slice AD o.descs.length cD) (.slice AC o.code.length cC) (.slice AE o.entries.length cE)) 48)=W1 at *
 have HP1:Hid (∀ W,Below W1.heap.size W1 W→ObParts W o (.slice AU o.uses.length cU) (.slice AD o.descs.length cD) (.slice AC o.code.length cC) (.slice AE o.entries.length cE)):=zh (fun W h=>(hp'.out.below B1.out).below h)
 have OBf:Hid (∀ W,Below W1.heap.size W1 W→Blk W w.heap.size 48 (obCells o (.slice AU o.uses.length cU) (.slice AD o.descs.length cD) (.slice AC o.code.length cC) (.slice AE o.entries.length cE))):=zh (fun W h=>L1.out.below h z1)
 have BB:Hid (∀ W,Below W1.heap.size W1 W→Below w.heap.size w W):=zh (fun W h=>B1.out.trans (h.mono (Nat.le_of_lt z1)))
 clear L1 B1 z1 hp'
 have b1:Below W1.heap.size W1 W1:=Below.refl _ _
 have c0:W1.cell? ⟨w.heap.size,0,none⟩=some (.string (txt o.name)):=(OBf.out W1 (by assumption)).cell 0
 have c1:W1.cell? ⟨w.heap.size,1,none⟩=some (.int .u32 o.key):=(OBf.out W1 (by assumption)).cell 1
 have c2:W1.cell? ⟨w.heap.size,2,none⟩=some (.slice AU o.uses.length cU):=(OBf.out W1 (by assumption)).cell 2
 have c3:W1.cell? ⟨w.heap.size,3,none⟩=some (.slice AD o.descs.length cD):=(OBf.out W1 (by assumption)).cell 3
 have c4:W1.cell? ⟨w.heap.size,4,none⟩=some (.int .i64 o.data):=(OBf.out W1 (by assumption)).cell 4
 have c5:W1.cell? ⟨w.heap.size,5,none⟩=some (.string (txt o.strings)):=(OBf.out W1 (by assumption)).cell 5
 have c6:W1.cell? ⟨w.heap.size,6,none⟩=some (.slice AC o.code.length cC):=(OBf.out W1 (by assumption)).cell 6
 have c7:W1.cell? ⟨w.heap.size,7,none⟩=some (.slice AE o.entries.length cE):=(OBf.out W1 (by assumption)).cell 7
 have c8:W1.cell? ⟨w.heap.size,8,none⟩=some (.int .i64 o.calls):=(OBf.out W1 (by assumption)).cell 8
 have c9:W1.cell? ⟨w.heap.size,9,none⟩=some (.int .i64 o.places):=(OBf.out W1 (by assumption)).cell 9
 go_wp2_with fail
 refine(ref23_names o _ _ _ _ W1 (HP1.out _ b1) hfH.out).mono ?_
 rintro e w1 ⟨rfl,hb1⟩
 clear c0 c1 c2 c3 c4 c5 c6 c7 c8 c9 b1
 cases hN:namesB o
 ·have hres:=zh (good_no_names hN)
  clear hN
  go_wp2_with fail
  go_ret
  exact⟨og_ret hres.out.symm,BB.out _ hb1⟩
 ·have hN':=zh hN
  clear hN
  have c0:w1.cell? ⟨w.heap.size,0,none⟩=some (.string (txt o.name)):=(OBf.out w1 hb1).cell 0
  have c1:w1.cell? ⟨w.heap.size,1,none⟩=some (.int .u32 o.key):=(OBf.out w1 hb1).cell 1
  have c2:w1.cell? ⟨w.heap.size,2,none⟩=some (.slice AU o.uses.length cU):=(OBf.out w1 hb1).cell 2
  have c3:w1.cell? ⟨w.heap.size,3,none⟩=some (.slice AD o.descs.length cD):=(OBf.out w1 hb1).cell 3
  have c4:w1.cell? ⟨w.heap.size,4,none⟩=some (.int .i64 o.data):=(OBf.out w1 hb1).cell 4
  have c5:w1.cell? ⟨w.heap.size,5,none⟩=some (.string (txt o.strings)):=(OBf.out w1 hb1).cell 5
  have c6:w1.cell? ⟨w.heap.size,6,none⟩=some (.slice AC o.code.length cC):=(OBf.out w1 hb1).cell 6
  have c7:w1.cell? ⟨w.heap.size,7,none⟩=some (.slice AE o.entries.length cE):=(OBf.out w1 hb1).cell 7
  have c8:w1.cell? ⟨w.heap.size,8,none⟩=some (.int .i64 o.calls):=(OBf.out w1 hb1).cell 8
  have c9:w1.cell? ⟨w.heap.size,9,none⟩=some (.int .i64 o.places):=(OBf.out w1 hb1).cell 9
  have hb1:=zh hb1
  go_wp2_with fail
  refine(ref23_descs o _ _ _ _ w1 (HP1.out _ hb1.out) hfH.out).mono ?_
  rintro e w2 ⟨rfl,hb2⟩
  have hb3:Below W1.heap.size W1 w2:=hb1.out.trans (hb2.mono hb1.out.size)
  clear c0 c1 c2 c3 c4 c5 c6 c7 c8 c9 hb2 hb1
  cases hD:descsB o
  ·have hres:=zh (good_no_descs hD)
   clear hD
   have hb3:=zh hb3
   go_wp2_with fail
   go_ret
   exact⟨og_ret hres.out.symm,BB.out _ hb3.out⟩
  ·have hD':=zh hD
   clear hD
   have c4:w2.cell? ⟨w.heap.size,4,none⟩=some (.int .i64 o.data):=(OBf.out w2 hb3).cell 4
   have c5:w2.cell? ⟨w.heap.size,5,none⟩=some (.string (txt o.strings)):=(OBf.out w2 hb3).cell 5
   have c6:w2.cell? ⟨w.heap.size,6,none⟩=some (.slice AC o.code.length cC):=(OBf.out w2 hb3).cell 6
   have c7:w2.cell? ⟨w.heap.size,7,none⟩=some (.slice AE o.entries.length cE):=(OBf.out w2 hb3).cell 7
   have hb3:=zh hb3
   have hss:=txt_size o.strings
   by_cases hbd:(0≤o.data∧o.data≤4096)∧o.strings.length≤32768∧o.strings.length % 4=0∧o.code.length≤8192∧1≤o.entries.length∧o.entries.length≤64
   ·have hbd':=zh hbd
    obtain⟨⟨q1,q2⟩,q3,q4,q5,q6,q7⟩:=hbd
    have n1:¬ o.data<0:=by omega
    have n2:¬ 4096<o.data:=by omega
    have n3:¬ (32768:Int)<o.strings.length:=by omega
    have n4:(o.strings.length:Int).tmod 4=0:=by rw[tmod4 (by omega)];omega
    have n5:¬ (8192:Int)<o.code.length:=by omega
    have n6:¬ (o.entries.length:Int)<1:=by omega
    have n7:¬ (64:Int)<o.entries.length:=by omega
    clear q1 q2 q3 q4 q6
    go_wp2_with fail
    clear n1 n2 n3 n4 n5 n6 n7 c4 c5 c6 c7 hss
    go_loopw [3] (fun i wr=>∃ (k:Nat),i=.int .i64 k∧k≤o.entries.length∧Hid (Below W1.heap.size W1 wr)∧Hid (∀ i,i<k→0≤o.entries.getD i 0∧o.entries.getD i 0<o.code.length)) (fun i _=>o.entries.length-(intOf i).toNat)
    case atStart=>exact⟨0,rfl,by omega,hb3,zh (fun i hi=>by omega)⟩
    case round=>
     clear hb3
     obtain⟨k,rfl,hk,hb,hall⟩:=hrel
     have c6:wr.cell? ⟨w.heap.size,6,none⟩=some (.slice AC o.code.length cC):=(OBf.out wr hb.out).cell 6
     have c7:wr.cell? ⟨w.heap.size,7,none⟩=some (.slice AE o.entries.length cE):=(OBf.out wr hb.out).cell 7
     by_cases hkl:(k:Int)<(o.entries.length:Int)
     ·have hkn:k<o.entries.length:=by omega
      obtain⟨-,A9,c9,e9,hc⟩:=(HP1.out _ hb.out).entries
      injection e9 with e9 _ e10
      subst e9 e10
      obtain⟨ad,rfl,had,hx⟩:=hc k hkn
      have hno:=zh (fun h=>entriesB_no (o:=o) hkn h)
      have hnx:=zh (show (0≤o.entries.getD k 0∧o.entries.getD k 0<o.code.length)→∀ i,i<k+1→0≤o.entries.getD i 0∧o.entries.getD i 0<o.code.length from fun h i hi=>by
       by_cases e:i=k
       ·rw[e];exact h
       ·exact hall.out i (by omega))
      clear hc hall
      generalize o.entries.getD k 0=x at *
      by_cases h0:x<0
      ·have hres:=zh (good_no_entries (hno.out (fun h=>by omega)))
       clear hno hnx
       go_wp2_with fail
       go_quiet (fail)
       go_wp2_with fail
       go_ret
       exact⟨og_ret hres.out.symm,BB.out _ (og_drewN hb.out _)⟩
      ·have hd0:decide (x<0)=false:=decide_eq_false h0
       by_cases h1:(o.code.length:Int)≤x
       ·have hres:=zh (good_no_entries (hno.out (fun h=>by omega)))
        clear hno hnx
        go_wp2_with fail
        go_quiet (fail)
        go_wp2_with fail
        go_ret
        exact⟨og_ret hres.out.symm,BB.out _ (og_drewN hb.out _)⟩
       ·have hall2:=zh (hnx.out (by omega))
        clear hno hnx
        go_wp2_with fail
        go_quiet (fail)
        go_wp2_with fail
        exact⟨⟨k+1,by go_num,by omega,zh (og_drewN hb.out _),hall2⟩,by simp[intOf];omega⟩
     ·obtain rfl:k=o.entries.length:=by omega
      have hent:=zh (entriesB_yes hall.out)
      have hgc:=zh (good_coded hfH.out hN'.out hD'.out ((boundsB_iff o).2 hbd'.out) hent.out)
      have LK:=zh (ref23_links o _ _ _ _ wr (HP1.out _ hb.out) hw.out hbd'.out.1 hbd'.out.2.1 hbd'.out.2.2.2.1 hfH.out.calls hfH.out.places)
      clear hall hent c6 c7
      have c0:wr.cell? ⟨w.heap.size,0,none⟩=some (.string (txt o.name)):=(OBf.out wr hb.out).cell 0
      have c1:wr.cell? ⟨w.heap.size,1,none⟩=some (.int .u32 o.key):=(OBf.out wr hb.out).cell 1
      have c2:wr.cell? ⟨w.heap.size,2,none⟩=some (.slice AU o.uses.length cU):=(OBf.out wr hb.out).cell 2
      have c3:wr.cell? ⟨w.heap.size,3,none⟩=some (.slice AD o.descs.length cD):=(OBf.out wr hb.out).cell 3
      have c4:wr.cell? ⟨w.heap.size,4,none⟩=some (.int .i64 o.data):=(OBf.out wr hb.out).cell 4
      have c5:wr.cell? ⟨w.heap.size,5,none⟩=some (.string (txt o.strings)):=(OBf.out wr hb.out).cell 5
      have c6:wr.cell? ⟨w.heap.size,6,none⟩=some (.slice AC o.code.length cC):=(OBf.out wr hb.out).cell 6
      have c7:wr.cell? ⟨w.heap.size,7,none⟩=some (.slice AE o.entries.length cE):=(OBf.out wr hb.out).cell 7
      have c8:wr.cell? ⟨w.heap.size,8,none⟩=some (.int .i64 o.calls):=(OBf.out wr hb.out).cell 8
      have c9:wr.cell? ⟨w.heap.size,9,none⟩=some (.int .i64 o.places):=(OBf.out wr hb.out).cell 9
      go_wp2_with fail
      refine LK.out.mono ?_
      rintro e W4 ⟨hle,hb4⟩
      have hb5:=zh (hb.out.trans (hb4.mono hb.out.size))
      clear c0 c1 c2 c3 c4 c5 c6 c7 c8 c9 LK hb4 hb
      unfold LinksEnd at hle
      cases hlo:linksOf o with
      | none=>
       rw[hlo] at hle
       have hle:e=.returned (.tuple #[.slice none 0 0,.bool false]):=hle
       subst hle
       have hres:=zh (hgc.out.trans (codedB_no hlo))
       clear hlo hgc
       have c6:W4.cell? ⟨w.heap.size,6,none⟩=some (.slice AC o.code.length cC):=(OBf.out W4 hb5.out).cell 6
       go_wp2_with fail
       clear c6
       go_loopw [5,6] (fun b i wr=>∃ (k:Nat),i=.int .i64 k∧k≤o.code.length∧b=.bool false∧Hid (Below W1.heap.size W1 wr)) (fun _ i _=>o.code.length-(intOf i).toNat)
       case atStart=>exact⟨0,rfl,by omega,rfl,hb5⟩
       case round=>
        obtain⟨k,rfl,hk,rfl,hb⟩:=hrel
        have c6:wr.cell? ⟨w.heap.size,6,none⟩=some (.slice AC o.code.length cC):=(OBf.out wr hb.out).cell 6
        by_cases hkl:(k:Int)<(o.code.length:Int)
        ·go_wp2_with fail
         go_ret
         exact⟨og_ret hres.out.symm,BB.out _ hb.out⟩
        ·go_wp2_with fail
         go_ret
         exact⟨og_ret hres.out.symm,BB.out _ hb.out⟩
      | some M=>
       rw[hlo] at hle
       obtain⟨v,rfl,hrow,hMl⟩:=hle
       have hlo:=zh hlo
       have hrow0:=hrow
       obtain⟨hml,AM,cM,rfl,-⟩:=hrow0
       have hrow:=zh hrow
       have c6:W4.cell? ⟨w.heap.size,6,none⟩=some (.slice AC o.code.length cC):=(OBf.out W4 hb5.out).cell 6
       go_wp2_with fail
       clear c6
       go_loopw [5,6] (fun b i wr=>∃ (k:Nat) (g:Bool),i=.int .i64 k∧k≤o.code.length∧b=.bool g∧Hid (Below W4.heap.size W4 wr)∧Hid (g=true→∀ i,i<k→M.getD i false=true∨Ins.isIns (o.code.getD i 0)=true)∧Hid (g=false→codedB o=false)) (fun _ i _=>o.code.length-(intOf i).toNat)
       case atStart=>exact⟨0,true,rfl,by omega,rfl,zh (Below.refl _ _),zh (fun _ i hi=>by omega),zh (fun h=>by cases h)⟩
       case round=>
        obtain⟨k,g,rfl,hk,rfl,hb,hall,hbadg⟩:=hrel
        have hbr:Below W1.heap.size W1 wr:=hb5.out.trans (hb.out.mono hb5.out.size)
        have c6:wr.cell? ⟨w.heap.size,6,none⟩=some (.slice AC o.code.length cC):=(OBf.out wr hbr).cell 6
        have hbr:=zh hbr
        by_cases hkl:(k:Int)<(o.code.length:Int)
        ·cases g
         ·have hres:=zh (hgc.out.trans (hbadg.out rfl))
          go_wp2_with fail
          go_ret
          exact⟨og_ret hres.out.symm,BB.out _ hbr.out⟩
         ·have hkn:k<o.code.length:=by omega
          obtain⟨-,A9,c9,e9,hc⟩:=(HP1.out _ hbr.out).code
          injection e9 with e9 _ e10
          subst e9 e10
          obtain⟨ad,rfl,had,hx⟩:=hc k hkn
          have hxb:=hw.out (o.code.getD k 0) (by rw[List.getD_eq_getElem?_getD,List.getElem?_eq_getElem hkn];exact List.getElem_mem _)
          have RD:=fun W=>zh (ref02_decode (o.code.getD k 0) W hxb.1 (by omega))
          have hyes:=zh (show (M.getD k false=true∨Ins.isIns (o.code.getD k 0)=true)→∀ i,i<k+1→M.getD i false=true∨Ins.isIns (o.code.getD i 0)=true from fun h i hi=>by
           by_cases e:i=k
           ·rw[e];exact h
           ·exact hall.out rfl i (by omega))
          have hno:=zh (fun h1 h2=>codedB_bad hlo.out hkn h1 h2)
          clear hc hall hbadg
          generalize o.code.getD k 0=x at *
          go_wp2_with fail
          refine(RD _).out.mono ?_
          rintro e W9 ⟨rfl,hb9⟩
          have hbq:=zh (hb.out.trans (hb9.mono hb.out.size))
          obtain⟨-,AM9,cM9,e9,hcM⟩:=(hrow.out.below hbq.out)
          injection e9 with e9 _ e10
          subst e9 e10
          obtain⟨am,rfl,ham,hxm⟩:=hcM k (by rw[List.length_map];omega)
          have hgm:(M.map bit).getD k 0=bit (M.getD k false):=by simp[List.getD,show k<M.length by omega]
          rw[hgm] at hxm
          have hMk:(k:Int)<(M.length:Int):=by omega
          have hMk2:(k:Int)<((M.map bit).length:Int):=by rw[List.length_map];omega
          have hw4:=zh hbq.out.size
          have ham2:(am.add k).block<W9.heap.size:=by rw[block_add];exact ham
          clear RD hcM hx hgm c6
          simp only[Ins.val,Ins.cells]
          generalize hDX:Ins.dec x=X
          clear hDX
          have hde:Ins.derr x=if Ins.isIns x=true then 0 else 20:=rfl
          rw[hde]
          clear hde
          cases hI:Ins.isIns x
          ·rw[if_neg (by simp)]
           cases hA:M.getD k false
           ·have hres:=zh (hno.out hA hI)
            rw[hA] at hxm
            have hxm:W9.cell? (am.add k)=some (.int .i64 0):=hxm
            clear hA hI hyes hno
            go_wp2_with fail
            exact⟨⟨k+1,false,by go_num,by omega,rfl,zh (hbq.out.alloc hw4.out _),zh (fun h=>by cases h),zh (fun _=>hres.out)⟩,by simp[intOf];omega⟩
           ·have hres:=zh (hyes.out (Or.inl hA))
            rw[hA] at hxm
            have hxm:W9.cell? (am.add k)=some (.int .i64 1):=hxm
            clear hA hI hyes hno
            go_wp2_with fail
            exact⟨⟨k+1,true,by go_num,by omega,rfl,zh (hbq.out.alloc hw4.out _),zh (fun _=>hres.out),zh (fun h=>by cases h)⟩,by simp[intOf];omega⟩
          ·rw[if_pos rfl]
           have hres:=zh (hyes.out (Or.inr hI))
           cases hA:M.getD k false
           ·rw[hA] at hxm
            have hxm:W9.cell? (am.add k)=some (.int .i64 0):=hxm
            clear hA hI hyes hno
            go_wp2_with fail
            exact⟨⟨k+1,true,by go_num,by omega,rfl,zh (hbq.out.alloc hw4.out _),zh (fun _=>hres.out),zh (fun h=>by cases h)⟩,by simp[intOf];omega⟩
           ·rw[hA] at hxm
            have hxm:W9.cell? (am.add k)=some (.int .i64 1):=hxm
            clear hA hI hyes hno
            go_wp2_with fail
            exact⟨⟨k+1,true,by go_num,by omega,rfl,zh (hbq.out.alloc hw4.out _),zh (fun _=>hres.out),zh (fun h=>by cases h)⟩,by simp[intOf];omega⟩
        ·obtain rfl:k=o.code.length:=by omega
         cases g
         ·have hres:=zh (hgc.out.trans (hbadg.out rfl))
          go_wp2_with fail
          go_ret
          exact⟨og_ret hres.out.symm,BB.out _ hbr.out⟩
         ·have hres:=zh (hgc.out.trans (codedB_yes hlo.out (hall.out rfl)))
          go_wp2_with fail
          go_ret
          exact⟨og_ret hres.out.symm,BB.out _ hbr.out⟩
   ·have hres:=zh (good_no_bounds (boundsB_no hbd))
    have hcs:=bound_cases hbd
    clear hbd
    have n4:(o.strings.length:Int).tmod 4=(o.strings.length:Int) % 4:=tmod4 (by omega)
    rcases hcs with h | ⟨h,h2⟩ | ⟨h,h2,h3⟩ | ⟨h,h2,h3,h4⟩ | ⟨h,h2,h3,h4,h5⟩ | ⟨h,h2,h3,h4,h5,h6⟩ | ⟨h,h2,h3,h4,h5,h6,h7⟩
    ·go_wp2_with fail
     go_ret
     exact⟨og_ret hres.out.symm,BB.out _ hb3.out⟩
    ·go_wp2_with fail
     go_ret
     exact⟨og_ret hres.out.symm,BB.out _ hb3.out⟩
    ·go_wp2_with fail
     go_ret
     exact⟨og_ret hres.out.symm,BB.out _ hb3.out⟩
    ·have h4:((o.strings.length:Int) % 4==0)=false:=by rw[beq_eq_false_iff_ne];exact h4
     go_wp2_with fail
     go_ret
     exact⟨og_ret hres.out.symm,BB.out _ hb3.out⟩
    ·go_wp2_with fail
     go_ret
     exact⟨og_ret hres.out.symm,BB.out _ hb3.out⟩
    ·go_wp2_with fail
     go_ret
     exact⟨og_ret hres.out.symm,BB.out _ hb3.out⟩
    ·go_wp2_with fail
     go_ret
     exact⟨og_ret hres.out.symm,BB.out _ hb3.out⟩
end Go.Proofs.YtceflhffilldeaaGreat
