/-
  Joined: ZDescs.
-/
import Derived.Test.YtceflhffilldeaaGreatZObjG
import Derived.Deep.CutBlock
set_option linter.unusedVariables false
set_option linter.unusedSimpArgs false
set_option maxRecDepth 100000
set_option maxHeartbeats 16000000
namespace Go.Proofs.YtceflhffilldeaaGreat
open Go.RowKit ObjL
theorem og_same (a b:ByteArray):(a.toList==b.toList)=true↔a=b:=by
 rw[beq_iff_eq,ByteArray.toList_eq,ByteArray.toList_eq]
 exact⟨fun h=>ByteArray.ext (Array.toList_inj.1 h),fun h=>by rw[h]⟩
theorem og_drewN {B:Nat} {w w1:World} (h:Below B w w1) (n:Nat):Below B w (w1.drewN n):=⟨h.os,h.tape,h.output,h.size,h.block⟩
theorem use_name {w:World} {o:Ob} {AU:Option Addr} {cU:Nat} (h:URow w (.slice AU o.uses.length cU) o.uses) (k:Nat) (hk:k<o.uses.length):∃ ad,AU=some ad∧ad.block<w.heap.size∧w.cell? (ad.add (k*2))=some (.string (txt (nameAt o k))):=by
 obtain⟨-,A1,c1,e1,hc⟩:=h
 injection e1 with e1 _ e2
 subst e1 e2
 obtain⟨ad,rfl,had,hx⟩:=hc k hk
 obtain⟨y0,q0,z0⟩:=hx 0 (by decide)
 have z0:=z0.1 rfl
 subst z0
 rw[nameAt_eq hk]
 exact⟨ad,rfl,had,q0⟩
theorem ref23_names (o:Ob) (vU vD vC vE:Value) (w:World) (hp:ObParts w o vU vD vC vE) (hf:ObFine o) :
  Calls Tryz.prog 51 #[.agg (obCells o vU vD vC vE)] w fun e w'=>e=.returned (.bool (namesB o))∧Below w.heap.size w w':=by
 have hp':=zh hp
 obtain⟨hU,hD,hC,hE⟩:=hp
 obtain⟨hUl,AU,cU,rfl,-⟩:=hU
 obtain⟨-,AD,cD,rfl,-⟩:=hD
 obtain⟨-,AE,cE,rfl,-⟩:=hE
 obtain⟨-,AC,cC,rfl,-⟩:=hC
 have HN:=fun W=>zh (ref09_word o.name W hf.name)
 have L1:=zh (Blk.new w 48 (obCells o (.slice AU o.uses.length cU) (.slice AD o.descs.length cD) (.slice AC o.code.length cC) (.slice AE o.entries.length cE)))
 have B1:=zh ((Below.refl w.heap.size w).alloc (Nat.le_refl _) (.cells (obCells o (.slice AU o.uses.length cU) (.slice AD o.descs.length cD) (.slice AC o.code.length cC) (.slice AE o.entries.length cE)) 48))
 have z1:w.heap.size<(w.alloc (.cells (obCells o (.slice AU o.uses.length cU) (.slice AD o.descs.length cD) (.slice AC o.code.length cC) (.slice AE o.entries.length cE)) 48)).heap.size:=by simp
 have c0:(w.alloc (.cells (obCells o (.slice AU o.uses.length cU) (.slice AD o.descs.length cD) (.slice AC o.code.length cC) (.slice AE o.entries.length cE)) 48)).cell? ⟨w.heap.size,0,none⟩=some (.string (txt o.name)):=L1.out.cell 0
 have c2:(w.alloc (.cells (obCells o (.slice AU o.uses.length cU) (.slice AD o.descs.length cD) (.slice AC o.code.length cC) (.slice AE o.entries.length cE)) 48)).cell? ⟨w.heap.size,2,none⟩=some (.slice AU o.uses.length cU):=L1.out.cell 2
 go_enter Tryz.func51,Tryz.ntmps51
 go_wp2_with fail
 generalize w.alloc (.cells (obCells o (.slice AU o.uses.length cU) (.slice AD o.descs.length cD) (.slice AC o.code.length cC) (.slice AE o.entries.length cE)) 48)=W1 at *
 refine(HN _).out.mono ?_
 rintro e w1 ⟨rfl,rfl⟩
 cases hn:wordT o.name
 ·have hres:=zh (namesB_no (o:=o) (fun k=>by rw[hn] at k;cases k.1))
  clear HN
  go_wp2_with fail
  go_ret
  exact⟨og_ret hres.out.symm,B1.out⟩
 ·by_cases h16:(16:Int)<o.uses.length
  ·have hres:=zh (namesB_no (o:=o) (fun k=>by have:=k.2.1;omega))
   clear HN
   go_wp2_with fail
   go_ret
   exact⟨og_ret hres.out.symm,B1.out⟩
  ·have h16':(o.uses.length:Int)≤16:=by omega
   clear h16 HN
   go_wp2_with fail
   have L2:Hid (∀ W,Below W1.heap.size W1 W→Blk W w.heap.size 48 (obCells o (.slice AU o.uses.length cU) (.slice AD o.descs.length cD) (.slice AC o.code.length cC) (.slice AE o.entries.length cE))):=zh (fun W h=>L1.out.below h z1)
   have hUs:=zh (hp'.out.uses.below B1.out)
   have BB:Hid (∀ W,Below W1.heap.size W1 W→Below w.heap.size w W):=zh (fun W h=>B1.out.trans (h.mono (Nat.le_of_lt z1)))
   clear c0 c2 L1
   go_loopw [3] (fun i wr=>∃ (k:Nat),i=.int .i64 k∧k≤o.uses.length∧Hid (Below W1.heap.size W1 wr)∧Hid (∀ i,i<k→wordT (nameAt o i)=true∧nameAt o i≠o.name∧∀ j,j<i→nameAt o j≠nameAt o i)) (fun i _=>o.uses.length-(intOf i).toNat)
   case atStart=>exact⟨0,rfl,by omega,zh (Below.refl _ _),zh (fun i hi=>by omega)⟩
   case round=>
    obtain⟨k,rfl,hk,hb,hall⟩:=hrel
    have c0:wr.cell? ⟨w.heap.size,0,none⟩=some (.string (txt o.name)):=(L2.out _ hb.out).cell 0
    have c2:wr.cell? ⟨w.heap.size,2,none⟩=some (.slice AU o.uses.length cU):=(L2.out _ hb.out).cell 2
    by_cases hkl:(k:Int)<(o.uses.length:Int)
    ·have hkn:k<o.uses.length:=by omega
     obtain⟨ad,rfl,had,hx⟩:=use_name hUs.out k hkn
     have hx:wr.cell? (ad.add (k*2))=some (.string (txt (nameAt o k))):=(hb.out.cell (p:=ad.add (k*2)) (by rw[block_add];exact had)).trans hx
     have hnl:(nameAt o k).length≤9223372036854775807:=by rw[nameAt_eq hkn];exact(hf.use _ (List.getElem_mem hkn)).1
     have hnl:=zh hnl
     cases hw1:wordT (nameAt o k)
     ·have hres:=zh (namesB_no_word hkn hw1)
      have RW:=fun W=>zh (ref09_word (nameAt o k) W hnl.out)
      rw[hw1] at RW
      clear hw1 hall
      generalize nameAt o k=nk at *
      go_wp2_with fail
      go_quiet ((go_at_call 71;exact quiet_eq (RW _).out))
      go_wp2_with fail
      go_ret
      exact⟨og_ret hres.out.symm,BB.out _ (og_drewN hb.out _)⟩
     ·by_cases ho:nameAt o k=o.name
      ·have hres:=zh (namesB_no_own hkn ho)
       have RW:=fun W=>zh (ref09_word (nameAt o k) W hnl.out)
       rw[hw1] at RW
       have hs:((txt (nameAt o k)).toList==(txt o.name).toList)=true:=(og_same _ _).2 (by rw[ho])
       clear ho hw1 hall
       generalize nameAt o k=nk at *
       go_wp2_with fail
       go_quiet ((go_at_call 71;exact quiet_eq (RW _).out))
       go_wp2_with fail
       go_ret
       exact⟨og_ret hres.out.symm,BB.out _ (og_drewN hb.out _)⟩
      ·have RW:=fun W=>zh (ref09_word (nameAt o k) W hnl.out)
       rw[hw1] at RW
       have hs:((txt (nameAt o k)).toList==(txt o.name).toList)=false:=by
        rw[Bool.eq_false_iff]
        exact fun e=>ho (txt_inj ((og_same _ _).1 e))
       have hok:=zh (And.intro hw1 ho)
       clear ho hw1
       go_wp2_with fail
       go_quiet ((go_at_call 71;exact quiet_eq (RW _).out))
       go_wp2_with fail
       have hb2:=zh (og_drewN hb.out nq)
       have hsN:((txt (nameAt o k)).toList==(txt o.name).toList)=false:=hs
       clear hs hsN RW hx
       generalize wr.drewN nq=wa at *
       go_loopw [4] (fun i wr=>∃ (j:Nat),i=.int .i64 j∧j≤k∧Hid (Below W1.heap.size W1 wr)∧Hid (∀ i,i<j→nameAt o i≠nameAt o k)) (fun i _=>k-(intOf i).toNat)
       case atStart=>exact⟨0,rfl,by omega,hb2,zh (fun i hi=>by omega)⟩
       case round=>
        obtain⟨j,rfl,hj,hbj,hall2⟩:=hrel
        have c2:wr.cell? ⟨w.heap.size,2,none⟩=some (.slice (some ad) o.uses.length cU):=(L2.out _ hbj.out).cell 2
        by_cases hjl:(j:Int)<(k:Int)
        ·have hjk:j<k:=by omega
         have hjn:(j:Int)<(o.uses.length:Int):=by omega
         obtain⟨ad2,e2,had2,hx2⟩:=use_name hUs.out j (by omega)
         obtain rfl:=Option.some.inj e2
         obtain⟨ad3,e3,had3,hx3⟩:=use_name hUs.out k hkn
         obtain rfl:=Option.some.inj e3
         have y2:wr.cell? (ad.add (j*2))=some (.string (txt (nameAt o j))):=(hbj.out.cell (p:=ad.add (j*2)) (by rw[block_add];exact had)).trans hx2
         have y3:wr.cell? (ad.add (k*2))=some (.string (txt (nameAt o k))):=(hbj.out.cell (p:=ad.add (k*2)) (by rw[block_add];exact had)).trans hx3
         clear hx2 hx3 e2 e3
         by_cases hjk2:nameAt o j=nameAt o k
         ·have hres:=zh (namesB_no_twice hkn hjk hjk2)
          have hs2:((txt (nameAt o j)).toList==(txt (nameAt o k)).toList)=true:=(og_same _ _).2 (by rw[hjk2])
          clear hjk2
          go_wp2_with fail
          go_quiet (fail)
          go_wp2_with fail
          go_ret
          exact⟨og_ret hres.out.symm,BB.out _ (og_drewN hbj.out _)⟩
         ·have hs2:((txt (nameAt o j)).toList==(txt (nameAt o k)).toList)=false:=by
           rw[Bool.eq_false_iff]
           exact fun e=>hjk2 (txt_inj ((og_same _ _).1 e))
          have hn2:=zh (show ∀ i,i<j+1→nameAt o i≠nameAt o k from fun i hi=>by
           by_cases e:i=j
           ·rw[e];exact hjk2
           ·exact hall2.out i (by omega))
          clear hjk2 hall2
          go_wp2_with fail
          go_quiet (fail)
          go_wp2_with fail
          exact⟨⟨j+1,by go_num,by omega,zh (og_drewN hbj.out _),hn2⟩,by simp[intOf];omega⟩
        ·obtain rfl:j=k:=by omega
         have hn1:=zh (show ∀ i,i<j+1→wordT (nameAt o i)=true∧nameAt o i≠o.name∧∀ q,q<i→nameAt o q≠nameAt o i from fun i hi=>by
          by_cases e:i=j
          ·rw[e];exact⟨hok.out.1,hok.out.2,hall2.out⟩
          ·exact hall.out i (by omega))
         clear hall hall2
         go_wp2_with fail
         exact⟨⟨j+1,by go_num,by omega,hbj,hn1⟩,by simp[intOf];omega⟩
    ·obtain rfl:k=o.uses.length:=by omega
     have hres:=zh ((namesB_iff o).2 ⟨hn,by omega,hall.out⟩)
     go_wp2_with fail
     go_ret
     exact⟨og_ret hres.out.symm,BB.out _ hb.out⟩
end Go.Proofs.YtceflhffilldeaaGreat
namespace Go.Proofs.YtceflhffilldeaaGreat
open Go.RowKit ObjL
namespace ObjL
def descAt (o:Ob) (i:Nat):Int×List (Int×Int):=o.descs.getD i (0,[])
theorem descAt_eq {o:Ob} {i:Nat} (h:i<o.descs.length):descAt o i=o.descs[i]:=by
 unfold descAt
 simp[List.getD,h]
def extOf (l:List (Int×Int)) (k:Nat):Int×Int:=l.getD k (0,0)
theorem extOf_eq {l:List (Int×Int)} {k:Nat} (h:k<l.length):extOf l k=l[k]:=by
 unfold extOf
 simp[List.getD,h]
def extOk (o:Ob) (e:Int×Int):Bool:=decide (0≤e.1∧e.1≤o.uses.length) && decide (0≤e.2∧e.2<64)
theorem extOk_iff (o:Ob) (e:Int×Int):extOk o e=true↔(0≤e.1∧e.1≤o.uses.length)∧0≤e.2∧e.2<64:=by
 unfold extOk
 simp only[Bool.and_eq_true,decide_eq_true_eq]
def sizeOk (d:Int×List (Int×Int)):Prop:=(0≤d.1∧d.1≤32768)∧d.1 % 4=0∧1≤d.2.length∧d.2.length≤5
def lastOk (i:Nat) (d:Int×List (Int×Int)):Prop:=extOf d.2 (d.2.length-1)=(0,(i:Int))
def descOk (o:Ob) (i:Nat) (d:Int×List (Int×Int)):Prop:=sizeOk d∧(∀ k,k<d.2.length→extOk o (extOf d.2 k)=true)∧lastOk i d
theorem last_of {l:List (Int×Int)} (h:1≤l.length) (x:Int×Int):l.getLast?=some x↔extOf l (l.length-1)=x:=by
 rw[extOf_eq (by omega),List.getLast?_eq_getElem?,List.getElem?_eq_getElem (by omega)]
 exact⟨fun h=>by injection h,fun h=>by rw[h]⟩
theorem descB_iff (o:Ob) (i:Nat) (d:Int×List (Int×Int)):descB? o i d=true↔descOk o i d:=by
 unfold descB? descOk sizeOk lastOk
 simp only[Bool.and_eq_true,decide_eq_true_eq,List.all_eq_true]
 constructor
 ·rintro⟨⟨⟨⟨h1,h2⟩,h3⟩,h4⟩,h5⟩
  refine⟨⟨h1,h2,h3⟩,fun k hk=>(extOk_iff _ _).2 (h5 _ ?_),(last_of h3.1 _).1 h4⟩
  rw[extOf_eq hk]
  exact List.getElem_mem hk
 ·rintro⟨⟨h1,h2,h3⟩,h4,h5⟩
  refine⟨⟨⟨⟨h1,h2⟩,h3⟩,(last_of h3.1 _).2 h5⟩,fun e he=>?_⟩
  obtain⟨k,hk,rfl⟩:=List.getElem_of_mem he
  have:=(extOk_iff _ _).1 (h4 k hk)
  rw[extOf_eq hk] at this
  exact this
theorem descsB_iff (o:Ob):descsB o=true↔o.descs.length≤64∧∀ i,i<o.descs.length→descOk o i (descAt o i):=by
 unfold descsB
 simp only[Bool.and_eq_true,decide_eq_true_eq,List.all_eq_true,List.mem_range]
 exact⟨fun h=>⟨h.1,fun i hi=>(descB_iff _ _ _).1 (h.2 i hi)⟩,fun h=>⟨h.1,fun i hi=>(descB_iff _ _ _).2 (h.2 i hi)⟩⟩
theorem descsB_no {o:Ob} {i:Nat} (hi:i<o.descs.length) (h:¬ descOk o i (descAt o i)):descsB o=false:=by
 cases e:descsB o
 ·rfl
 ·exact absurd (((descsB_iff o).1 e).2 i hi) h
theorem descsB_long {o:Ob} (h:¬ o.descs.length≤64):descsB o=false:=by
 cases e:descsB o
 ·rfl
 ·exact absurd ((descsB_iff o).1 e).1 h
theorem desc_no_size {o:Ob} {i:Nat} {d:Int×List (Int×Int)} (h:¬ sizeOk d):¬ descOk o i d:=fun k=>h k.1
theorem desc_no_ext {o:Ob} {i k:Nat} {d:Int×List (Int×Int)} (hk:k<d.2.length) (h:extOk o (extOf d.2 k)=false):¬ descOk o i d:=fun q=>by
 have:=q.2.1 k hk
 rw[h] at this
 cases this
theorem desc_no_last {o:Ob} {i:Nat} {d:Int×List (Int×Int)} (h:¬ lastOk i d):¬ descOk o i d:=fun k=>h k.2.2
theorem boundsB_iff (o:Ob):boundsB o=true↔(0≤o.data∧o.data≤4096)∧o.strings.length≤32768∧o.strings.length % 4=0∧o.code.length≤8192∧1≤o.entries.length∧o.entries.length≤64:=by
 unfold boundsB
 simp only[Bool.and_eq_true,decide_eq_true_eq]
 constructor
 ·rintro⟨⟨⟨⟨h1,h2⟩,h3⟩,h4⟩,h5⟩
  exact⟨h1,h2,h3,h4,h5⟩
 ·rintro⟨h1,h2,h3,h4,h5⟩
  exact⟨⟨⟨⟨h1,h2⟩,h3⟩,h4⟩,h5⟩
theorem boundsB_no {o:Ob} (h:¬ ((0≤o.data∧o.data≤4096)∧o.strings.length≤32768∧o.strings.length % 4=0∧o.code.length≤8192∧1≤o.entries.length∧o.entries.length≤64)):boundsB o=false:=by
 cases e:boundsB o
 ·rfl
 ·exact absurd ((boundsB_iff o).1 e) h
theorem entriesB_no {o:Ob} {i:Nat} (hi:i<o.entries.length) (h:¬ (0≤o.entries.getD i 0∧o.entries.getD i 0<o.code.length)):entriesB o=false:=by
 unfold entriesB
 rw[List.all_eq_false]
 refine⟨o.entries[i],List.getElem_mem hi,?_⟩
 have e:o.entries.getD i 0=o.entries[i]:=by simp[List.getD,hi]
 rw[e] at h
 simpa using h
theorem entriesB_yes {o:Ob} (h:∀ i,i<o.entries.length→0≤o.entries.getD i 0∧o.entries.getD i 0<o.code.length):entriesB o=true:=by
 unfold entriesB
 rw[List.all_eq_true]
 intro x hx
 obtain⟨i,hi,rfl⟩:=List.getElem_of_mem hx
 have:=h i hi
 have e:o.entries.getD i 0=o.entries[i]:=by simp[List.getD,hi]
 rw[e] at this
 simpa using this
theorem entriesB_any (o:Ob):entriesB o=!(o.entries.any fun x=>!decide (0≤x∧x<o.code.length)):=by
 unfold entriesB
 induction o.entries with
 | nil=>rfl
 | cons a l ih=>rw[List.all_cons,List.any_cons,ih,Bool.not_or,Bool.not_not]
theorem wordsB_fine {o:Ob} (h:ObFine o):wordsB o=true:=by
 unfold wordsB word
 simp only[Bool.and_eq_true,decide_eq_true_eq,List.all_eq_true]
 have hk:=h.key
 exact⟨⟨by omega,fun u hu=>by have:=h.use u hu;omega⟩,fun x hx=>by have:=h.code x hx;omega⟩
theorem goodO_eq {o:Ob} (h:ObFine o):goodO o=(namesB o && descsB o && boundsB o && entriesB o && codedB o):=by
 unfold goodO
 rw[wordsB_fine h,Bool.true_and]
theorem good_no_names {o:Ob} (h:namesB o=false):goodO o=false:=by unfold goodO;rw[h];simp
theorem good_no_descs {o:Ob} (h:descsB o=false):goodO o=false:=by unfold goodO;rw[h];simp
theorem good_no_bounds {o:Ob} (h:boundsB o=false):goodO o=false:=by unfold goodO;rw[h];simp
theorem good_no_entries {o:Ob} (h:entriesB o=false):goodO o=false:=by unfold goodO;rw[h];simp
theorem good_coded {o:Ob} (hf:ObFine o) (h1:namesB o=true) (h2:descsB o=true) (h3:boundsB o=true) (h4:entriesB o=true):goodO o=codedB o:=by rw[goodO_eq hf,h1,h2,h3,h4];rfl
end ObjL
end Go.Proofs.YtceflhffilldeaaGreat
namespace Go.Proofs.YtceflhffilldeaaGreat
open Go.RowKit ObjL
theorem desc_at {w:World} {o:Ob} {AD:Option Addr} {cD:Nat} (h:DRow w (.slice AD o.descs.length cD) o.descs) (i:Nat) (hi:i<o.descs.length):∃ ad y1,AD=some ad∧ad.block<w.heap.size∧w.cell? (ad.add (i*2))=some (.int .i64 (descAt o i).1)∧w.cell? ⟨(ad.add (i*2)).block,(ad.add (i*2)).off+1,none⟩=some y1∧ERow w y1 (descAt o i).2:=by
 obtain⟨-,A1,c1,e1,hc⟩:=h
 injection e1 with e1 _ e2
 subst e1 e2
 obtain⟨ad,rfl,had,hx⟩:=hc i hi
 obtain⟨y0,q0,z0⟩:=hx 0 (by decide)
 obtain⟨y1,q1,z1⟩:=hx 1 (by decide)
 have z0:=z0.1 rfl
 subst z0
 rw[descAt_eq hi]
 exact⟨ad,y1,rfl,had,q0,q1,z1.2 rfl⟩
theorem ext_at {w:World} {l:List (Int×Int)} {A:Option Addr} {c:Nat} (h:ERow w (.slice A l.length c) l) (i:Nat) (hi:i<l.length):∃ ad,A=some ad∧ad.block<w.heap.size∧w.cell? (ad.add (i*2))=some (.int .i64 (extOf l i).1)∧w.cell? ⟨(ad.add (i*2)).block,(ad.add (i*2)).off+1,none⟩=some (.int .i64 (extOf l i).2):=by
 obtain⟨-,A1,c1,e1,hc⟩:=h
 injection e1 with e1 _ e2
 subst e1 e2
 obtain⟨ad,rfl,had,hx⟩:=hc i hi
 obtain⟨y0,q0,z0⟩:=hx 0 (by decide)
 obtain⟨y1,q1,z1⟩:=hx 1 (by decide)
 have z0:=z0.1 rfl
 have z1:=z1.2 rfl
 subst z0 z1
 rw[extOf_eq hi]
 exact⟨ad,rfl,had,q0,q1⟩
theorem size_cases {sz:Int} {es:List (Int×Int)} (h:¬ sizeOk (sz,es)):sz<0∨(0≤sz∧32768<sz)∨(0≤sz∧sz≤32768∧sz % 4≠0)∨(0≤sz∧sz≤32768∧sz % 4=0∧(es.length:Int)<1)∨(0≤sz∧sz≤32768∧sz % 4=0∧1≤(es.length:Int)∧5<(es.length:Int)):=by
 unfold sizeOk at h
 simp only at h
 omega
theorem ext_cases {o:Ob} {a b:Int} (h:extOk o (a,b)=false):a<0∨(0≤a∧(o.uses.length:Int)<a)∨(0≤a∧a≤(o.uses.length:Int)∧b<0)∨(0≤a∧a≤(o.uses.length:Int)∧0≤b∧64≤b):=by
 have h2:¬ extOk o (a,b)=true:=by rw[h];simp
 rw[extOk_iff] at h2
 simp only at h2
 omega
theorem tmod4 {x:Int} (h:0≤x):x.tmod 4=x % 4:=Int.tmod_eq_emod_of_nonneg h
theorem ref23_descs (o:Ob) (vU vD vC vE:Value) (w:World) (hp:ObParts w o vU vD vC vE) (hf:ObFine o) :
  Calls Tryz.prog 52 #[.agg (obCells o vU vD vC vE)] w fun e w'=>e=.returned (.bool (descsB o))∧Below w.heap.size w w':=by
 obtain⟨hU,hD0,hC,hE⟩:=hp
 have hD:=zh hD0
 obtain⟨hUl,AU,cU,rfl,-⟩:=hU
 obtain⟨hDl,AD,cD,rfl,-⟩:=hD0
 clear hC hE
 have hfd:=zh hf.desc
 clear hf
 have k2:(obCells o (.slice AU o.uses.length cU) (.slice AD o.descs.length cD) vC vE)[2]?=some (.slice AU o.uses.length cU):=rfl
 have k3:(obCells o (.slice AU o.uses.length cU) (.slice AD o.descs.length cD) vC vE)[3]?=some (.slice AD o.descs.length cD):=rfl
 generalize obCells o (.slice AU o.uses.length cU) (.slice AD o.descs.length cD) vC vE=K at *
 have L1:=zh (Blk.new w 48 K)
 have B1:=zh ((Below.refl w.heap.size w).alloc (Nat.le_refl _) (.cells K 48))
 have z1:w.heap.size<(w.alloc (.cells K 48)).heap.size:=by simp
 go_enter Tryz.func52,Tryz.ntmps52
 go_upto_region 1 with fail
 generalize w.alloc (.cells K 48)=W1 at *
 have C2:Hid (∀ W,Below W1.heap.size W1 W→W.cell? ⟨w.heap.size,2,none⟩=some (.slice AU o.uses.length cU)):=zh (fun W h=>((L1.out.below h z1).cell 2).trans k2)
 have C3:Hid (∀ W,Below W1.heap.size W1 W→W.cell? ⟨w.heap.size,3,none⟩=some (.slice AD o.descs.length cD)):=zh (fun W h=>((L1.out.below h z1).cell 3).trans k3)
 have BB:Hid (∀ W,Below W1.heap.size W1 W→Below w.heap.size w W):=zh (fun W h=>B1.out.trans (h.mono (Nat.le_of_lt z1)))
 have hDs:=zh (hD.out.below B1.out)
 clear k2 k3 L1 B1 z1 hD
 have c3:=C3.out W1 (Below.refl _ _)
 by_cases h64:(64:Int)<o.descs.length
 ·have hres:=zh (descsB_long (o:=o) (by omega))
  go_wp2_with fail
  go_ret
  exact⟨og_ret hres.out.symm,BB.out _ (Below.refl _ _)⟩
 ·have h64':(o.descs.length:Int)≤64:=by omega
  clear h64
  go_wp2_with fail
  clear c3
  go_loopw [3] (fun i wr=>∃ (k:Nat),i=.int .i64 k∧k≤o.descs.length∧Hid (Below W1.heap.size W1 wr)∧Hid (∀ i,i<k→descOk o i (descAt o i))) (fun i _=>o.descs.length-(intOf i).toNat)
  case atStart=>exact⟨0,rfl,by omega,zh (Below.refl _ _),zh (fun i hi=>by omega)⟩
  case round=>
   obtain⟨k,rfl,hk,hb,hall⟩:=hrel
   have c3:=C3.out _ hb.out
   by_cases hkl:(k:Int)<(o.descs.length:Int)
   ·have hkn:k<o.descs.length:=by omega
    obtain⟨ad,y1,rfl,had,x0,x1,hes⟩:=desc_at hDs.out k hkn
    have hfk:=zh (show I64 (descAt o k).1 by rw[descAt_eq hkn];exact(hfd.out _ (List.getElem_mem hkn)).1)
    have x0:wr.cell? (ad.add (k*2))=some (.int .i64 (descAt o k).1):=(hb.out.cell (p:=ad.add (k*2)) (by rw[block_add];exact had)).trans x0
    have x1:wr.cell? ⟨(ad.add (k*2)).block,(ad.add (k*2)).off+1,none⟩=some y1:=(hb.out.cell (p:=⟨(ad.add (k*2)).block,(ad.add (k*2)).off+1,none⟩) (by show (ad.add (k*2)).block<_;rw[block_add];exact had)).trans x1
    have hno:=zh (fun h=>descsB_no (o:=o) hkn h)
    have hes:=zh (hes.below hb.out)
    have hnx:=zh (show descOk o k (descAt o k)→∀ i,i<k+1→descOk o i (descAt o i) from fun h i hi=>by
     by_cases e:i=k
     ·rw[e];exact h
     ·exact hall.out i (by omega))
    clear hall
    generalize descAt o k=dk at *
    obtain⟨sz,es⟩:=dk
    dsimp only at x0 hes hfk
    have hes0:=hes.out
    obtain⟨hel,AE,cE,rfl,-⟩:=hes0
    have hXn:=zh (Blk.new wr 84 #[.int .i64 sz,.slice AE es.length cE])
    have hb2:=zh (hb.out.alloc hb.out.size (.cells #[.int .i64 sz,.slice AE es.length cE] 84))
    have hB3:=zh ((Below.refl wr.heap.size wr).alloc (Nat.le_refl _) (.cells #[.int .i64 sz,.slice AE es.length cE] 84))
    have hz3:wr.heap.size<(wr.alloc (.cells #[.int .i64 sz,.slice AE es.length cE] 84)).heap.size:=by simp
    go_upto_region 7 with fail
    generalize wr.alloc (.cells #[.int .i64 sz,.slice AE es.length cE] 84)=W2 at *
    have V0:Hid (∀ W,Below W2.heap.size W2 W→W.cell? ⟨wr.heap.size,0,none⟩=some (.int .i64 sz)):=zh (fun W h=>(hXn.out.below h hz3).cell 0)
    have V1:Hid (∀ W,Below W2.heap.size W2 W→W.cell? ⟨wr.heap.size,1,none⟩=some (.slice AE es.length cE)):=zh (fun W h=>(hXn.out.below h hz3).cell 1)
    have BB2:Hid (∀ W,Below W2.heap.size W2 W→Below W1.heap.size W1 W):=zh (fun W h=>hb2.out.trans (h.mono hb2.out.size))
    have hes2:=zh (hes.out.below hB3.out)
    clear hXn x0 x1 c3 hes hb hB3 hz3 hb2 had
    have v0:=V0.out W2 (Below.refl _ _)
    have v1:=V1.out W2 (Below.refl _ _)
    by_cases hs:sizeOk (sz,es)
    ·have hs':=zh hs
     obtain⟨⟨q1,q2⟩,q3,q4,q5⟩:=hs
     dsimp only at q1 q2 q3 q4 q5
     have e4:sz.tmod 4=0:=by rw[tmod4 q1];exact q3
     have g1:¬ sz<0:=by omega
     have g2:¬ 32768<sz:=by omega
     have g3:¬ (es.length:Int)<1:=by omega
     have g4:¬ 5<(es.length:Int):=by omega
     clear q1 q2 q3
     go_wp2_with fail
     clear e4 g1 g2 v0 v1
     have hgW:Hid (wr.heap.size=wr.heap.size):=zh rfl
     generalize wr.heap.size=gd at *
     clear hgW
     generalize wr=wx at *
     go_loopw [6] (fun i wr=>∃ (j:Nat),i=.int .i64 j∧j≤es.length∧Hid (Below W2.heap.size W2 wr)∧Hid (∀ q,q<j→extOk o (extOf es q)=true)) (fun i _=>es.length-(intOf i).toNat)
     case atStart=>exact⟨0,rfl,by omega,zh (Below.refl _ _),zh (fun i hi=>by omega)⟩
     case round=>
      obtain⟨j,rfl,hj,hbj,hallj⟩:=hrel
      have v1:=V1.out _ hbj.out
      by_cases hjl:(j:Int)<(es.length:Int)
      ·have hjn:j<es.length:=by omega
       obtain⟨ae,rfl,hae,x0,x1⟩:=ext_at hes2.out j hjn
       have x0:wr.cell? (ae.add (j*2))=some (.int .i64 (extOf es j).1):=(hbj.out.cell (p:=ae.add (j*2)) (by rw[block_add];exact hae)).trans x0
       have x1:wr.cell? ⟨(ae.add (j*2)).block,(ae.add (j*2)).off+1,none⟩=some (.int .i64 (extOf es j).2):=(hbj.out.cell (p:=⟨(ae.add (j*2)).block,(ae.add (j*2)).off+1,none⟩) (by show (ae.add (j*2)).block<_;rw[block_add];exact hae)).trans x1
       have hnoj:=zh (fun h=>desc_no_ext (o:=o) (i:=k) (d:=(sz,es)) hjn h)
       have hnxj:=zh (show extOk o (extOf es j)=true→∀ q,q<j+1→extOk o (extOf es q)=true from fun h i hi=>by
        by_cases e:i=j
        ·rw[e];exact h
        ·exact hallj.out i (by omega))
       dsimp only at hnoj
       clear hallj
       generalize extOf es j=ej at *
       obtain⟨ea,eb⟩:=ej
       dsimp only at x0 x1
       have hYn:=zh (Blk.new wr 93 #[.int .i64 ea,.int .i64 eb])
       have hb5:=zh (hbj.out.alloc hbj.out.size (.cells #[.int .i64 ea,.int .i64 eb] 93))
       go_upto_region 14 with fail
       generalize wr.alloc (.cells #[.int .i64 ea,.int .i64 eb] 93)=W5 at *
       have u0:W5.cell? ⟨wr.heap.size,0,none⟩=some (.int .i64 ea):=hYn.out.cell 0
       have u1:W5.cell? ⟨wr.heap.size,1,none⟩=some (.int .i64 eb):=hYn.out.cell 1
       have c2:=C2.out _ (BB2.out _ hb5.out)
       clear x0 x1 v1 hYn hae
       cases hx:extOk o (ea,eb)
       ·have hres:=zh (hno.out (hnoj.out hx))
        have hBr:=zh (BB.out _ (BB2.out _ hb5.out))
        have hcs:=ext_cases hx
        clear hx hnoj hno hnxj
        rcases hcs with h | ⟨h1,h2⟩ | ⟨h1,h2,h3⟩ | ⟨h1,h2,h3,h4⟩
        ·go_wp2_with fail
         go_ret
         exact⟨og_ret hres.out.symm,hBr.out⟩
        ·have n1:¬ ea<0:=by omega
         go_wp2_with fail
         go_ret
         exact⟨og_ret hres.out.symm,hBr.out⟩
        ·have n1:¬ ea<0:=by omega
         have n2:¬ (o.uses.length:Int)<ea:=by omega
         go_wp2_with fail
         go_ret
         exact⟨og_ret hres.out.symm,hBr.out⟩
        ·have n1:¬ ea<0:=by omega
         have n2:¬ (o.uses.length:Int)<ea:=by omega
         have n3:¬ eb<0:=by omega
         go_wp2_with fail
         go_ret
         exact⟨og_ret hres.out.symm,hBr.out⟩
       ·have hall2:=zh (hnxj.out hx)
        obtain⟨⟨h1,h2⟩,h3,h4⟩:=(extOk_iff _ _).1 hx
        dsimp only at h1 h2 h3 h4
        have n1:¬ ea<0:=by omega
        have n2:¬ (o.uses.length:Int)<ea:=by omega
        have n3:¬ eb<0:=by omega
        have n4:¬ 64≤eb:=by omega
        clear hx hnoj hnxj h1 h2 h3 h4
        go_wp2_with fail
        exact⟨⟨j+1,by go_num,by omega,hb5,hall2⟩,by simp[intOf];omega⟩
      ·obtain rfl:j=es.length:=by omega
       obtain⟨m,hm⟩:∃ m,es.length=m+1:=⟨es.length-1,by omega⟩
       obtain⟨ae,rfl,hae,x0,x1⟩:=ext_at hes2.out m (by omega)
       have x0:wr.cell? (ae.add (m*2))=some (.int .i64 (extOf es m).1):=(hbj.out.cell (p:=ae.add (m*2)) (by rw[block_add];exact hae)).trans x0
       have x1:wr.cell? ⟨(ae.add (m*2)).block,(ae.add (m*2)).off+1,none⟩=some (.int .i64 (extOf es m).2):=(hbj.out.cell (p:=⟨(ae.add (m*2)).block,(ae.add (m*2)).off+1,none⟩) (by show (ae.add (m*2)).block<_;rw[block_add];exact hae)).trans x1
       have hla:Hid (lastOk k (sz,es)↔extOf es m=(0,(k:Int))):=zh (by unfold lastOk;dsimp only;rw[show es.length-1=m by omega])
       have hyes:=zh (fun h=>hnx.out ⟨hs'.out,hallj.out,h⟩)
       have hnol:=zh (fun h=>hno.out (desc_no_last (o:=o) (i:=k) (d:=(sz,es)) h))
       have hBj:=zh (BB2.out _ hbj.out)
       clear hallj hnx hno hs' hes2
       generalize extOf es m=ej at *
       obtain⟨ea,eb⟩:=ej
       dsimp only at x0 x1
       by_cases he1:ea=0
       ·subst he1
        by_cases he2:eb=(k:Int)
        ·subst he2
         have hall2:=zh (hyes.out (hla.out.2 rfl))
         go_wp2_with fail
         exact⟨⟨k+1,by go_num,by omega,hBj,hall2⟩,by simp[intOf];omega⟩
        ·have hres:=zh (hnol.out (fun h=>he2 (Prod.mk.inj (hla.out.1 h)).2))
         have hBr:=zh (BB.out _ hBj.out)
         have n2:(eb==(k:Int))=false:=by rw[beq_eq_false_iff_ne];exact he2
         go_wp2_with fail
         go_ret
         exact⟨og_ret hres.out.symm,hBr.out⟩
       ·have hres:=zh (hnol.out (fun h=>he1 (Prod.mk.inj (hla.out.1 h)).1))
        have hBr:=zh (BB.out _ hBj.out)
        have n2:(ea==0)=false:=by rw[beq_eq_false_iff_ne];exact he1
        go_wp2_with fail
        go_ret
        exact⟨og_ret hres.out.symm,hBr.out⟩
    ·have hres:=zh (hno.out (desc_no_size hs))
     have hBr:=zh (BB.out _ (BB2.out _ (Below.refl _ _)))
     have hcs:=size_cases hs
     clear hs hno hnx
     rcases hcs with h | ⟨h1,h2⟩ | ⟨h1,h2,h3⟩ | ⟨h1,h2,h3,h4⟩ | ⟨h1,h2,h3,h4,h5⟩
     ·go_wp2_with fail
      go_ret
      exact⟨og_ret hres.out.symm,hBr.out⟩
     ·have n1:¬ sz<0:=by omega
      go_wp2_with fail
      go_ret
      exact⟨og_ret hres.out.symm,hBr.out⟩
     ·have n1:¬ sz<0:=by omega
      have n2:¬ 32768<sz:=by omega
      have n3:(sz.tmod 4==0)=false:=by rw[beq_eq_false_iff_ne,tmod4 h1];exact h3
      go_wp2_with fail
      go_ret
      exact⟨og_ret hres.out.symm,hBr.out⟩
     ·have n1:¬ sz<0:=by omega
      have n2:¬ 32768<sz:=by omega
      have n3:sz.tmod 4=0:=by rw[tmod4 h1];exact h3
      go_wp2_with fail
      go_ret
      exact⟨og_ret hres.out.symm,hBr.out⟩
     ·have n1:¬ sz<0:=by omega
      have n2:¬ 32768<sz:=by omega
      have n3:sz.tmod 4=0:=by rw[tmod4 h1];exact h3
      have n4:¬ (es.length:Int)<1:=by omega
      go_wp2_with fail
      go_ret
      exact⟨og_ret hres.out.symm,hBr.out⟩
   ·obtain rfl:k=o.descs.length:=by omega
    have hres:=zh ((descsB_iff o).2 ⟨by omega,hall.out⟩)
    go_wp2_with fail
    go_ret
    exact⟨og_ret hres.out.symm,BB.out _ hb.out⟩
end Go.Proofs.YtceflhffilldeaaGreat
