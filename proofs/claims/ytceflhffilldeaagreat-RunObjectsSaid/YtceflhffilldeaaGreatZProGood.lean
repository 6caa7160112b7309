/-
  Joined: ZProGood.
-/
import Derived.Test.YtceflhffilldeaaGreatZRiscRefGood
import Derived.Test.YtceflhffilldeaaGreatZDescs
import Derived.Test.YtceflhffilldeaaGreatZGoods
set_option linter.unusedVariables false
set_option linter.unusedSimpArgs false
set_option maxRecDepth 100000
set_option maxHeartbeats 16000000
namespace Go.Proofs.YtceflhffilldeaaGreat
open Go.RowKit Bw
end Go.Proofs.YtceflhffilldeaaGreat
namespace Go.Proofs.YtceflhffilldeaaGreat
open Go.RowKit Bw
end Go.Proofs.YtceflhffilldeaaGreat
namespace Go.Proofs.YtceflhffilldeaaGreat
open Go.RowKit ObjL
def bit (b:Bool):Int:=if b=true then 1 else 0
end Go.Proofs.YtceflhffilldeaaGreat
namespace Go.Proofs.YtceflhffilldeaaGreat
open Go.RowKit ObjL
end Go.Proofs.YtceflhffilldeaaGreat
namespace Go.Proofs.YtceflhffilldeaaGreat
open Go.RowKit Go.Maps Go.WideMaps ObjL
theorem wpList_ins {H:Type} {P:Program} (w:World) {ops:Array Oper} {rest:List Oper} {o:Oper} {a:Act} {Q:Exit→Act→World→Prop}
  (hg:o.guard=none) (m x v:Operand) (t:TypeId) (hop:o.op=Op.insert t m x v)
  (k e:TypeId) (K:Keyed P k) (ht:P.underlying t=some (.map k e)) (R:Value→Option (DataW H×List MemPlace)) (b n:Nat) (D:DataW H)
  (hm:a.eval m=.map (some b)) (hown:w.ownsMap P k R b n D) (hn:n<maxLen) (key val:Value) (kl:Lit) (hx:a.eval x=key) (hv:a.eval v=val) (hkey:keyOf P k key=some kl)
  (d:DataW H) (ps:List MemPlace) (hval:R val=some (d,ps))
  (hK:∀ w',w'.ownsMap P k R b (n+1) (D.put kl d)→w.grownBy w' (some b)→wpList P ops Q rest (a.put o.dst undef) w') :
  wpList P ops Q (o::rest) a w:=by
 refine wpList_plain hg fun K' hK'=>?_
 obtain⟨w',hrun,r1,r2⟩:=hown.update K ht hn hkey hval
 unfold Oper.wp
 simp[execOp,hop,hm,hx,hv,hrun,Result.andThen]
 exact hK' _ _ (hK w' r1 r2)
def Met (D:DataW Unit) (o:Ob) (k:Nat):Prop:=(∀ t,(t=o.name∨∃ j,j<k∧nameAt o j=t)→sval D t=1)∧∀ t,¬ (t=o.name∨∃ j,j<k∧nameAt o j=t)→sval D t=0
theorem met_start (o:Ob):Met ((DataW.map []).put (skey o.name) (snum 1)) o 0:=by
 refine⟨fun t h=>?_,fun t h=>?_⟩
 ·rw[sval_put isMap_empty]
  rcases h with rfl | ⟨j,hj,-⟩
  ·rw[if_pos rfl]
  ·omega
 ·rw[sval_put isMap_empty,if_neg (fun e=>h (Or.inl e))];rfl
theorem Met.next {D:DataW Unit} {o:Ob} {k:Nat} (h:Met D o k) (hD:IsMap D):Met (D.put (skey (nameAt o k)) (snum 1)) o (k+1):=by
 refine⟨fun t ht=>?_,fun t ht=>?_⟩
 ·rw[sval_put hD]
  by_cases e:t=nameAt o k
  ·rw[if_pos e]
  ·rw[if_neg e]
   refine h.1 t ?_
   rcases ht with ht | ⟨j,hj,ht⟩
   ·exact Or.inl ht
   ·refine Or.inr ⟨j,?_,ht⟩
    rcases Nat.lt_or_ge j k with hl | hl
    ·exact hl
    ·obtain rfl:j=k:=by omega
     exact absurd ht.symm e
 ·rw[sval_put hD,if_neg (fun e=>ht (Or.inr ⟨k,by omega,e.symm⟩))]
  exact h.2 t (fun hh=>ht (by
   rcases hh with hh | ⟨j,hj,hh⟩
   ·exact Or.inl hh
   ·exact Or.inr ⟨j,by omega,hh⟩))
theorem goodb_cases {o:Ob} (h:¬ (o.uses.length≤16∧o.descs.length≤64∧(0≤o.data∧o.data≤4096)∧o.strings.length≤32768∧o.strings.length % 4=0∧o.code.length≤8192∧1≤o.entries.length∧o.entries.length≤64)) :
  (16:Int)<o.uses.length∨(¬ (16:Int)<o.uses.length∧(64:Int)<o.descs.length)∨(¬ (16:Int)<o.uses.length∧¬ (64:Int)<o.descs.length∧¬ (0≤o.data∧o.data<4097)) ∨
  (¬ (16:Int)<o.uses.length∧¬ (64:Int)<o.descs.length∧(0≤o.data∧o.data<4097)∧(32768:Int)<o.strings.length) ∨
  (¬ (16:Int)<o.uses.length∧¬ (64:Int)<o.descs.length∧(0≤o.data∧o.data<4097)∧¬ (32768:Int)<o.strings.length∧(o.strings.length:Int) % 4≠0) ∨
  (¬ (16:Int)<o.uses.length∧¬ (64:Int)<o.descs.length∧(0≤o.data∧o.data<4097)∧¬ (32768:Int)<o.strings.length∧(o.strings.length:Int) % 4=0∧(8192:Int)<o.code.length) ∨
  (¬ (16:Int)<o.uses.length∧¬ (64:Int)<o.descs.length∧(0≤o.data∧o.data<4097)∧¬ (32768:Int)<o.strings.length∧(o.strings.length:Int) % 4=0∧¬ (8192:Int)<o.code.length∧(o.entries.length:Int)<1) ∨
  (¬ (16:Int)<o.uses.length∧¬ (64:Int)<o.descs.length∧(0≤o.data∧o.data<4097)∧¬ (32768:Int)<o.strings.length∧(o.strings.length:Int) % 4=0∧¬ (8192:Int)<o.code.length∧¬ (o.entries.length:Int)<1∧(64:Int)<o.entries.length):=by omega
theorem goodb_no {o:Ob} (h:¬ (o.uses.length≤16∧o.descs.length≤64∧(0≤o.data∧o.data≤4096)∧o.strings.length≤32768∧o.strings.length % 4=0∧o.code.length≤8192∧1≤o.entries.length∧o.entries.length≤64)):goodO o=false:=by
 by_cases h1:o.uses.length≤16
 ·by_cases h2:o.descs.length≤64
  ·exact good_no_bounds (boundsB_no (fun hh=>h ⟨h1,h2,hh⟩))
  ·exact good_no_descs (descsB_long h2)
 ·exact good_no_names (namesB_no (fun hh=>h1 hh.2.1))
theorem Blk.ne_map {w:World} {g b n:Nat} {t:TypeId} {cs:Array Value} {D:DataW Unit} (h:Blk w g t cs) (k:SMap w b n D):g≠b:=by
 rintro rfl
 obtain⟨es,clock,hB,-⟩:=k
 unfold Blk at h
 rw[hB] at h
 cases h
theorem obj_good (o:Ob) (vU vD vC vE:Value) (w:World) (hp:ObParts w o vU vD vC vE) (hf:ObFine o) :
  Calls Tryz.prog 143 #[.agg (obCells o vU vD vC vE)] w fun e w'=>e=.returned (.bool (goodO o))∧Below w.heap.size w w':=by
 have hp':=zh hp
 obtain⟨hU,hD,hC,hE⟩:=hp
 obtain⟨-,AU,cU,rfl,-⟩:=hU
 obtain⟨-,AD,cD,rfl,-⟩:=hD
 obtain⟨-,AE,cE,rfl,-⟩:=hE
 obtain⟨-,AC,cC,rfl,-⟩:=hC
 have hfH:=zh hf
 have hw:=zh hf.code
 clear hf
 go_enter Tryz.func143,Tryz.ntmps143
 go_upto_region 1 with fail
 have L1:=zh (Blk.new w 48 (obCells o (.slice AU o.uses.length cU) (.slice AD o.descs.length cD) (.slice AC o.code.length cC) (.slice AE o.entries.length cE)))
 have B1:=zh ((Below.refl w.heap.size w).alloc (Nat.le_refl _) (.cells (obCells o (.slice AU o.uses.length cU) (.slice AD o.descs.length cD) (.slice AC o.code.length cC) (.slice AE o.entries.length cE)) 48))
 have z1:w.heap.size<(w.alloc (.cells (obCells o (.slice AU o.uses.length cU) (.slice AD o.descs.length cD) (.slice AC o.code.length cC) (.slice AE o.entries.length cE)) 48)).heap.size:=by simp
 generalize w.alloc (.cells (obCells o (.slice AU o.uses.length cU) (.slice AD o.descs.length cD) (.slice AC o.code.length cC) (.slice AE o.entries.length cE)) 48)=W1 at *
 have HP1:Hid (∀ W,Below W1.heap.size W1 W→ObParts W o (.slice AU o.uses.length cU) (.slice AD o.descs.length cD) (.slice AC o.code.length cC) (.slice AE o.entries.length cE)):=zh (fun W h=>(hp'.out.below B1.out).below h)
 have OBf:Hid (∀ W,Below W1.heap.size W1 W→Blk W w.heap.size 48 (obCells o (.slice AU o.uses.length cU) (.slice AD o.descs.length cD) (.slice AC o.code.length cC) (.slice AE o.entries.length cE))):=zh (fun W h=>L1.out.below h z1)
 have BB:Hid (∀ W,Below W1.heap.size W1 W→Below w.heap.size w W):=zh (fun W h=>B1.out.trans (h.mono (Nat.le_of_lt z1)))
 clear L1 B1 z1 hp'
 have b1:Below W1.heap.size W1 W1:=Below.refl _ _
 have c0:W1.cell? ⟨w.heap.size,0,none⟩=some (.string (txt o.name)):=(OBf.out W1 (by assumption)).cell 0
 have c1:W1.cell? ⟨w.heap.size,1,none⟩=some (.int .u32 o.key):=(OBf.out W1 (by assumption)).cell 1
 have c2:W1.cell? ⟨w.heap.size,2,none⟩=some (.slice AU o.uses.length cU):=(OBf.out W1 (by assumption)).cell 2
 have c3:W1.cell? ⟨w.heap.size,3,none⟩=some (.slice AD o.descs.length cD):=(OBf.out W1 (by assumption)).cell 3
 have c4:W1.cell? ⟨w.heap.size,4,none⟩=some (.int .i64 o.data):=(OBf.out W1 (by assumption)).cell 4
 have c5:W1.cell? ⟨w.heap.size,5,none⟩=some (.string (txt o.strings)):=(OBf.out W1 (by assumption)).cell 5
 have c6:W1.cell? ⟨w.heap.size,6,none⟩=some (.slice AC o.code.length cC):=(OBf.out W1 (by assumption)).cell 6
 have c7:W1.cell? ⟨w.heap.size,7,none⟩=some (.slice AE o.entries.length cE):=(OBf.out W1 (by assumption)).cell 7
 have c8:W1.cell? ⟨w.heap.size,8,none⟩=some (.int .i64 o.calls):=(OBf.out W1 (by assumption)).cell 8
 have c9:W1.cell? ⟨w.heap.size,9,none⟩=some (.int .i64 o.places):=(OBf.out W1 (by assumption)).cell 9
 have hss:=txt_size o.strings
 have n4:(o.strings.length:Int).tmod 4=(o.strings.length:Int) % 4:=tmod4 (by omega)
 go_wp2_with fail
 refine(obj_named o.name W1 hfH.out.name).mono ?_
 rintro e w1 ⟨rfl,hb1⟩
 clear c0 c1 c2 c3 c4 c5 c6 c7 c8 c9 b1
 cases hN:wordT o.name
 ·have hres:=zh (good_no_names (namesB_no (o:=o) (fun k=>by rw[hN] at k;cases k.1)))
  clear hN
  have hb1:=zh hb1
  go_wp2_with fail
  go_ret
  exact⟨og_ret hres.out.symm,BB.out _ hb1.out⟩
 ·have hN':=zh hN
  clear hN
  have c2:w1.cell? ⟨w.heap.size,2,none⟩=some (.slice AU o.uses.length cU):=(OBf.out w1 hb1).cell 2
  have c3:w1.cell? ⟨w.heap.size,3,none⟩=some (.slice AD o.descs.length cD):=(OBf.out w1 hb1).cell 3
  have c4:w1.cell? ⟨w.heap.size,4,none⟩=some (.int .i64 o.data):=(OBf.out w1 hb1).cell 4
  have c5:w1.cell? ⟨w.heap.size,5,none⟩=some (.string (txt o.strings)):=(OBf.out w1 hb1).cell 5
  have c6:w1.cell? ⟨w.heap.size,6,none⟩=some (.slice AC o.code.length cC):=(OBf.out w1 hb1).cell 6
  have c7:w1.cell? ⟨w.heap.size,7,none⟩=some (.slice AE o.entries.length cE):=(OBf.out w1 hb1).cell 7
  have hb1:=zh hb1
  have BW:=fun W=>zh (below_any o.data 4097 W)
  by_cases hbd:o.uses.length≤16∧o.descs.length≤64∧(0≤o.data∧o.data≤4096)∧o.strings.length≤32768∧o.strings.length % 4=0∧o.code.length≤8192∧1≤o.entries.length∧o.entries.length≤64
  ·have hbd':=zh hbd
   obtain⟨q8,q9,⟨q1,q2⟩,q3,q4,q5,q6,q7⟩:=hbd
   have n1:¬ (16:Int)<o.uses.length:=by omega
   have n2:¬ (64:Int)<o.descs.length:=by omega
   have n3:¬ (32768:Int)<o.strings.length:=by omega
   have n4b:(o.strings.length:Int) % 4=0:=by omega
   have n5:¬ (8192:Int)<o.code.length:=by omega
   have n6:¬ (o.entries.length:Int)<1:=by omega
   have n7:¬ (64:Int)<o.entries.length:=by omega
   have hdd:decide (0≤o.data∧o.data<4097)=true:=decide_eq_true (by omega)
   rw[hdd] at BW
   have hul:(o.uses.length:Int)≤16:=by omega
   have hdl:(o.descs.length:Int)≤64:=by omega
   clear q1 q2 q3 q4 q6 hdd q5 q7 q8 q9
   go_upto_region 3 with (go_at_call 171;refine(BW _).out.mono ?_;rintro e w2 ⟨rfl,rfl⟩)
   clear n1 n2 n3 n4 n4b n5 n6 n7 c2 c3 c4 c5 c6 c7 hss BW
   have c0:(w1.alloc (.map #[] 0)).cell? ⟨w.heap.size,0,none⟩=some (.string (txt o.name)):=(OBf.out (w1.alloc (.map #[] 0)) (hb1.out.alloc hb1.out.size _)).cell 0
   have MM:(Instr.makeMap 95 none).run Tryz.prog w1=.ok (.map (some w1.heap.size)) (w1.alloc (.map #[] 0)):=rfl
   have hnl:=zh hfH.out.name
   go_wp2_with (refine wpList_ins _ rfl (.tmp 64) (.tmp 66) (.const (.int .i64 1)) 95 rfl 9 3 str_keyed Tryz.underlying95 (plainElem Tryz.prog 3) w1.heap.size 0 (.map []) rfl (World.ownsMap_made w1 _ _ _) (by decide) _ _ (skey o.name) rfl rfl (keyOf_txt hnl.out) (snum 1) [] (plainElem_int Tryz.underlying3 (by decide)) ?_;intro w3 ho3 hg3;have c2:w3.cell? ⟨w.heap.size,2,none⟩=some (.slice AU o.uses.length cU):=(OBf.out w3 ((hb1.out.alloc hb1.out.size (.map #[] 0)).grown hg3 (Nat.le_trans hb1.out.size (by simp)) (fun k hk=>by injection hk with hk;subst hk;exact hb1.out.size))).cell 2)
   have hb3:=zh ((hb1.out.alloc hb1.out.size (.map #[] 0)).grown hg3 (Nat.le_trans hb1.out.size (by simp)) (fun k hk=>by injection hk with hk;subst hk;exact hb1.out.size))
   have hm0:=zh hb1.out.size
   have hS3:Hid (SMap w3 w1.heap.size 1 ((DataW.map []).put (skey o.name) (snum 1))):=zh ho3
   generalize w1.heap.size=m0 at *
   have hMet:=zh (met_start o)
   generalize (DataW.map []).put (skey o.name) (snum 1)=D0 at *
   clear c0 MM hg3 ho3 hb1 c2
   go_loopw [71] (fun i wr=>∃ (k n:Nat) (D:DataW Unit),i=.int .i64 k∧k≤o.uses.length∧n=1+k∧Hid (Below W1.heap.size W1 wr)∧Hid (SMap wr m0 n D)∧Hid (Met D o k)∧Hid (∀ i,i<k→wordT (nameAt o i)=true∧nameAt o i≠o.name∧∀ j,j<i→nameAt o j≠nameAt o i)) (fun i _=>o.uses.length-(intOf i).toNat)
   case atStart=>exact⟨0,1,D0,rfl,by omega,rfl,hb3,hS3,hMet,zh (fun i hi=>by omega)⟩
   case round=>
    clear hb3 hS3 hMet
    obtain⟨k,n,D,rfl,hk,hn,hb,hS,hM,hall⟩:=hrel
    have hn:=zh hn
    by_cases hkl:(k:Int)<(o.uses.length:Int)
    ·have hkn:k<o.uses.length:=by omega
     obtain⟨ad,rfl,had,hx⟩:=use_name (HP1.out _ hb.out).uses k hkn
     obtain⟨-,A1,c1,e1,hc⟩:=(HP1.out _ hb.out).uses
     injection e1 with e1 _ e2
     subst e1 e2
     obtain⟨ad2,e3,-,hx2⟩:=hc k hkn
     obtain rfl:=Option.some.inj e3
     obtain⟨y1,q1,z1⟩:=hx2 1 (by decide)
     have q1:wr.cell? ⟨(ad.add (k*2)).block,(ad.add (k*2)).off+1,none⟩=some y1:=q1
     have z1:=z1.2 rfl
     have hnl:(nameAt o k).length≤9223372036854775807:=by rw[nameAt_eq hkn];exact(hfH.out.use _ (List.getElem_mem hkn)).1
     have hnl:=zh hnl
     have hS':=zh (hS.out.below ((Below.refl _ _).alloc (Nat.le_refl _) (.cells #[.string (txt (nameAt o k)),y1] 54)))
     have hb':=zh (hb.out.alloc hb.out.size (.cells #[.string (txt (nameAt o k)),y1] 54))
     have hU:=zh (Blk.new wr 54 #[.string (txt (nameAt o k)),y1])
     have hres1:=zh (fun h=>namesB_no_own hkn h)
     have hres2:=zh (fun (j:Nat) (hj:j<k) h=>namesB_no_twice hkn hj h)
     have hres3:=zh (fun h=>namesB_no_word hkn h)
     have hMn:=zh (hM.out.next hS.out.isMap)
     have hseen:=zh hM.out
     have hnx:=zh (show (wordT (nameAt o k)=true∧nameAt o k≠o.name∧∀ j,j<k→nameAt o j≠nameAt o k)→∀ i,i<k+1→wordT (nameAt o i)=true∧nameAt o i≠o.name∧∀ j,j<i→nameAt o j≠nameAt o i from fun h i hi=>by
      by_cases e:i=k
      ·rw[e];exact h
      ·exact hall.out i (by omega))
     clear hS hb hM hall hc hx2 e3
     have z1:y1=.int .u32 (o.uses[k]).2:=z1
     subst z1
     generalize (o.uses[k]).2=uk at *
     obtain⟨nk,hnk⟩:∃ nk,nameAt o k=nk:=⟨_,rfl⟩
     rw[hnk] at hx hnl hS' hb' hU hres1 hres2 hres3 hMn hnx
     have hnk:=zh hnk
     go_upto_region 7 with fail
     generalize wr.alloc (.cells #[.string (txt nk),.int .u32 uk] 54)=W6 at *
     have v0:W6.cell? ⟨wr.heap.size,0,none⟩=some (.string (txt nk)):=hU.out.cell 0
     have hU1:=zh hU.out.lt
     have hmne:wr.heap.size≠m0:=(Blk.ne_map hU.out hS'.out)
     by_cases hsn:nk=o.name∨∃ j,j<k∧nameAt o j=nk
     ·have hv:=hseen.out.1 nk hsn
      have hlk:=hS'.out.look hnl.out
      rw[hv] at hlk
      have hres:Hid (goodO o=false):=zh (good_no_names (by
       rcases hsn with h | ⟨j,hj,h⟩
       ·exact hres1.out h
       ·exact hres2.out j hj h))
      clear hsn hv hres1 hres2 hres3 hMn hnx hseen
      go_wp2_with (refine wpList_mapUpdate_own _ rfl (.tmp 75) (.tmp 77) (.tmp 79) 95 rfl 9 3 str_keyed Tryz.underlying95 (plainElem Tryz.prog 3) m0 n D rfl hS'.out (by rw[hn.out];simp only[maxLen];omega) (.string (txt nk)) (.int .i64 2) (skey nk) rfl rfl (keyOf_txt hnl.out) (snum 2) [] (plainElem_int Tryz.underlying3 (by decide)) ?_;intro w8 ho8 hg8;have v8:w8.cell? ⟨wr.heap.size,0,none⟩=some (.string (txt nk)):=(hU.out.grown hg8 (fun e=>hmne (Option.some.inj e))).cell 0;have hS8:SMap w8 m0 (n+1) (D.put (skey nk) (snum 2)):=ho8;have hlk8:=hS8.look hnl.out;rw[sval_put hS'.out.isMap,if_pos rfl] at hlk8;have hb8:=zh (hb'.out.grown hg8 hb'.out.size (fun q hq=>by injection hq with hq;subst hq;exact hm0.out)))
      go_ret
      exact⟨og_ret hres.out.symm,BB.out _ hb8.out⟩
     ·have hv:=hseen.out.2 nk hsn
      have hlk:=hS'.out.look hnl.out
      rw[hv] at hlk
      have hsn':=zh hsn
      have RW:=fun W=>zh (obj_named nk W hnl.out)
      clear hsn hv hres1 hres2 hseen
      cases hw1:wordT nk
      ·have hres:Hid (goodO o=false):=zh (good_no_names (hres3.out hw1))
       rw[hw1] at RW
       clear hw1 hMn hnx hres3
       go_wp2_with (refine wpList_mapUpdate_own _ rfl (.tmp 75) (.tmp 77) (.tmp 79) 95 rfl 9 3 str_keyed Tryz.underlying95 (plainElem Tryz.prog 3) m0 n D rfl hS'.out (by rw[hn.out];simp only[maxLen];omega) (.string (txt nk)) (.int .i64 1) (skey nk) rfl rfl (keyOf_txt hnl.out) (snum 1) [] (plainElem_int Tryz.underlying3 (by decide)) ?_;intro w8 ho8 hg8;have v8:w8.cell? ⟨wr.heap.size,0,none⟩=some (.string (txt nk)):=(hU.out.grown hg8 (fun e=>hmne (Option.some.inj e))).cell 0;have hS8:SMap w8 m0 (n+1) (D.put (skey nk) (snum 1)):=ho8;have hlk8:=hS8.look hnl.out;rw[sval_put hS'.out.isMap,if_pos rfl] at hlk8;have hb8:=zh (hb'.out.grown hg8 hb'.out.size (fun q hq=>by injection hq with hq;subst hq;exact hm0.out));have hS8':=zh hS8;clear hS8 ho8 hg8)
       refine(RW _).out.mono ?_
       rintro e w9 ⟨rfl,hb9⟩
       have hb9:=zh (hb8.out.trans (hb9.mono hb8.out.size))
       go_wp2_with fail
       go_ret
       exact⟨og_ret hres.out.symm,BB.out _ hb9.out⟩
      ·have hall2:=zh (hnx.out ⟨hw1,fun e=>hsn'.out (Or.inl e),fun j hj e=>hsn'.out (Or.inr ⟨j,hj,e⟩)⟩)
       rw[hw1] at RW
       clear hw1 hnx hres3
       go_wp2_with (refine wpList_mapUpdate_own _ rfl (.tmp 75) (.tmp 77) (.tmp 79) 95 rfl 9 3 str_keyed Tryz.underlying95 (plainElem Tryz.prog 3) m0 n D rfl hS'.out (by rw[hn.out];simp only[maxLen];omega) (.string (txt nk)) (.int .i64 1) (skey nk) rfl rfl (keyOf_txt hnl.out) (snum 1) [] (plainElem_int Tryz.underlying3 (by decide)) ?_;intro w8 ho8 hg8;have v8:w8.cell? ⟨wr.heap.size,0,none⟩=some (.string (txt nk)):=(hU.out.grown hg8 (fun e=>hmne (Option.some.inj e))).cell 0;have hS8:SMap w8 m0 (n+1) (D.put (skey nk) (snum 1)):=ho8;have hlk8:=hS8.look hnl.out;rw[sval_put hS'.out.isMap,if_pos rfl] at hlk8;have hb8:=zh (hb'.out.grown hg8 hb'.out.size (fun q hq=>by injection hq with hq;subst hq;exact hm0.out));have hS8':=zh hS8;clear hS8 ho8 hg8)
       refine(RW _).out.mono ?_
       rintro e w9 ⟨rfl,hb9⟩
       have hS9:=zh (hS8'.out.below hb9)
       have hb9:=zh (hb8.out.trans (hb9.mono hb8.out.size))
       go_wp2_with fail
       exact⟨⟨k+1,n+1,_,by go_num,by omega,by rw[hn.out];omega,hb9,hS9,hMn,hall2⟩,by simp[intOf];omega⟩
    ·obtain rfl:k=o.uses.length:=by omega
     have hnam:=zh ((namesB_iff o).2 ⟨hN'.out,by omega,hall.out⟩)
     have c3:wr.cell? ⟨w.heap.size,3,none⟩=some (.slice AD o.descs.length cD):=(OBf.out wr hb.out).cell 3
     clear hall hS hM hn
     go_wp2_with fail
     clear c3
     go_loopw [95] (fun i wr=>∃ (k:Nat),i=.int .i64 k∧k≤o.descs.length∧Hid (Below W1.heap.size W1 wr)∧Hid (∀ i,i<k→descOk o i (descAt o i))) (fun i _=>o.descs.length-(intOf i).toNat)
     case atStart=>exact⟨0,rfl,by omega,hb,zh (fun i hi=>by omega)⟩
     case round=>
      clear hb
      obtain⟨k,rfl,hk,hb,hall⟩:=hrel
      by_cases hkl:(k:Int)<(o.descs.length:Int)
      ·have hkn:k<o.descs.length:=by omega
       obtain⟨ad,y1,hAD,had,x0,x1,hes⟩:=desc_at (HP1.out _ hb.out).descs k hkn
       subst hAD
       have hfk:=zh (show I64 (descAt o k).1 by rw[descAt_eq hkn];exact(hfH.out.desc _ (List.getElem_mem hkn)).1)
       have hno:=zh (fun h=>good_no_descs (descsB_no (o:=o) hkn h))
       have hes:=zh hes
       have hnx:=zh (show descOk o k (descAt o k)→∀ i,i<k+1→descOk o i (descAt o i) from fun h i hi=>by
        by_cases e:i=k
        ·rw[e];exact h
        ·exact hall.out i (by omega))
       clear hall
       generalize descAt o k=dk at *
       obtain⟨sz,es⟩:=dk
       dsimp only at x0 hes hfk
       have hes0:=hes.out
       obtain⟨hel,AX,cX,rfl,-⟩:=hes0
       have hXn:=zh (Blk.new wr 84 #[.int .i64 sz,.slice AX es.length cX])
       have hb2:=zh (hb.out.alloc hb.out.size (.cells #[.int .i64 sz,.slice AX es.length cX] 84))
       have hB3:=zh ((Below.refl wr.heap.size wr).alloc (Nat.le_refl _) (.cells #[.int .i64 sz,.slice AX es.length cX] 84))
       have hz3:wr.heap.size<(wr.alloc (.cells #[.int .i64 sz,.slice AX es.length cX] 84)).heap.size:=by simp
       go_upto_region 14 with fail
       generalize wr.alloc (.cells #[.int .i64 sz,.slice AX es.length cX] 84)=W2 at *
       have V0:Hid (∀ W,Below W2.heap.size W2 W→W.cell? ⟨wr.heap.size,0,none⟩=some (.int .i64 sz)):=zh (fun W h=>(hXn.out.below h hz3).cell 0)
       have V1:Hid (∀ W,Below W2.heap.size W2 W→W.cell? ⟨wr.heap.size,1,none⟩=some (.slice AX es.length cX)):=zh (fun W h=>(hXn.out.below h hz3).cell 1)
       have BB2:Hid (∀ W,Below W2.heap.size W2 W→Below W1.heap.size W1 W):=zh (fun W h=>hb2.out.trans (h.mono hb2.out.size))
       have hes2:=zh (hes.out.below hB3.out)
       clear hXn x0 x1 hes hb hB3 hz3 hb2 had
       have v0:=V0.out W2 (Below.refl _ _)
       have v1:=V1.out W2 (Below.refl _ _)
       have BS:=fun W=>zh (below_any sz 32769 W)
       by_cases hs:sizeOk (sz,es)
       ·have hs':=zh hs
        obtain⟨⟨q1,q2⟩,q3,q4,q5⟩:=hs
        dsimp only at q1 q2 q3 q4 q5
        have e4:sz.tmod 4=0:=by rw[tmod4 q1];exact q3
        have hds:decide (0≤sz∧sz<32769)=true:=decide_eq_true (by omega)
        rw[hds] at BS
        have g3:¬ (es.length:Int)<1:=by omega
        have g4:¬ 5<(es.length:Int):=by omega
        obtain⟨m,hm⟩:∃ m,es.length=m+1:=⟨es.length-1,by omega⟩
        obtain⟨ae,hAX,hae,x0,x1⟩:=ext_at hes2.out m (by omega)
        subst hAX
        have hla:Hid (lastOk k (sz,es)↔extOf es m=(0,(k:Int))):=zh (by unfold lastOk;dsimp only;rw[show es.length-1=m by omega])
        have hnol:=zh (fun h=>hno.out (desc_no_last (o:=o) (i:=k) (d:=(sz,es)) h))
        clear q1 q2 q3 hds q4 q5
        have hmH:=zh hm
        generalize extOf es m=ej at *
        obtain⟨ea,eb⟩:=ej
        dsimp only at x0 x1
        by_cases he:ea=0∧eb=(k:Int)
        ·obtain⟨he1,he2⟩:=he
         subst he1 he2
         have hlast:=zh (hla.out.2 rfl)
         clear hnol hla
         go_upto_region 17 with (go_at_call 171;refine(BS _).out.mono ?_;rintro e w2 ⟨rfl,rfl⟩)
         clear hm e4 g3 g4 BS v0 x0 x1
         go_wp2_with fail
         clear v1
         have hgW:Hid (wr.heap.size=wr.heap.size):=zh rfl
         generalize wr.heap.size=gd at *
         clear hgW
         generalize wr=wx at *
         go_loopw [135] (fun i wr=>∃ (j:Nat),i=.int .i64 j∧j≤es.length∧Hid (Below W2.heap.size W2 wr)∧Hid (∀ q,q<j→extOk o (extOf es q)=true)) (fun i _=>es.length-(intOf i).toNat)
         case atStart=>exact⟨0,rfl,by omega,zh (Below.refl _ _),zh (fun i hi=>by omega)⟩
         case round=>
          obtain⟨j,rfl,hj,hbj,hallj⟩:=hrel
          by_cases hjl:(j:Int)<(es.length:Int)
          ·have hjn:j<es.length:=by omega
           obtain⟨ae2,e5,hae2,x0,x1⟩:=ext_at hes2.out j hjn
           obtain rfl:=Option.some.inj e5
           have x0:wr.cell? (ae.add (j*2))=some (.int .i64 (extOf es j).1):=(hbj.out.cell (p:=ae.add (j*2)) (by rw[block_add];exact hae)).trans x0
           have x1:wr.cell? ⟨(ae.add (j*2)).block,(ae.add (j*2)).off+1,none⟩=some (.int .i64 (extOf es j).2):=(hbj.out.cell (p:=⟨(ae.add (j*2)).block,(ae.add (j*2)).off+1,none⟩) (by show (ae.add (j*2)).block<_;rw[block_add];exact hae)).trans x1
           have hnoj:=zh (fun h=>hno.out (desc_no_ext (o:=o) (i:=k) (d:=(sz,es)) hjn h))
           have hnxj:=zh (show extOk o (extOf es j)=true→∀ q,q<j+1→extOk o (extOf es q)=true from fun h i hi=>by
            by_cases e:i=j
            ·rw[e];exact h
            ·exact hallj.out i (by omega))
           dsimp only at hnoj
           clear hallj e5
           generalize extOf es j=ej at *
           obtain⟨ea,eb⟩:=ej
           dsimp only at x0 x1
           have hYn:=zh (Blk.new wr 93 #[.int .i64 ea,.int .i64 eb])
           have hb5:=zh (hbj.out.alloc hbj.out.size (.cells #[.int .i64 ea,.int .i64 eb] 93))
           go_upto_region 20 with fail
           generalize wr.alloc (.cells #[.int .i64 ea,.int .i64 eb] 93)=W5 at *
           have u0:W5.cell? ⟨wr.heap.size,0,none⟩=some (.int .i64 ea):=hYn.out.cell 0
           have u1:W5.cell? ⟨wr.heap.size,1,none⟩=some (.int .i64 eb):=hYn.out.cell 1
           have c2:W5.cell? ⟨w.heap.size,2,none⟩=some (.slice AU o.uses.length cU):=(OBf.out W5 (BB2.out _ hb5.out)).cell 2
           have BX:=fun W=>zh (below_any ea ((o.uses.length:Int)+1) W)
           have BY:=fun W=>zh (below_any eb 64 W)
           clear x0 x1 hYn hae2
           cases hx:extOk o (ea,eb)
           ·have hres:=zh (hnoj.out hx)
            have hBr:=zh (BB.out _ (BB2.out _ hb5.out))
            have hcs:¬ (0≤ea∧ea<(o.uses.length:Int)+1)∨((0≤ea∧ea<(o.uses.length:Int)+1)∧¬ (0≤eb∧eb<64)):=by
             have h2:¬ extOk o (ea,eb)=true:=by rw[hx];simp
             rw[extOk_iff] at h2
             dsimp only at h2
             omega
            clear hx hnoj hno hnxj
            rcases hcs with h | ⟨h,h2⟩
            ·rw[decide_eq_false h] at BX
             clear h
             go_wp2_with (go_at_call 171;refine(BX _).out.mono ?_;rintro e w2 ⟨rfl,rfl⟩)
             go_ret
             exact⟨og_ret hres.out.symm,hBr.out⟩
            ·rw[decide_eq_true h] at BX
             rw[decide_eq_false h2] at BY
             clear h h2
             go_wp2_with fail
             refine(BX _).out.mono ?_
             rintro e w2 ⟨rfl,rfl⟩
             go_wp2_with fail
             refine(BY _).out.mono ?_
             rintro e w2 ⟨rfl,rfl⟩
             go_wp2_with fail
             go_ret
             exact⟨og_ret hres.out.symm,hBr.out⟩
           ·have hall2:=zh (hnxj.out hx)
            obtain⟨⟨h1,h2⟩,h3,h4⟩:=(extOk_iff _ _).1 hx
            dsimp only at h1 h2 h3 h4
            rw[decide_eq_true (by omega:0≤ea∧ea<(o.uses.length:Int)+1)] at BX
            rw[decide_eq_true (by omega:0≤eb∧eb<64)] at BY
            clear hx hnoj hnxj h1 h2 h3 h4
            go_wp2_with fail
            refine(BX _).out.mono ?_
            rintro e w2 ⟨rfl,rfl⟩
            go_wp2_with fail
            refine(BY _).out.mono ?_
            rintro e w2 ⟨rfl,rfl⟩
            go_wp2_with fail
            exact⟨⟨j+1,by go_num,by omega,hb5,hall2⟩,by simp[intOf];omega⟩
          ·obtain rfl:j=es.length:=by omega
           have hBj:=zh (BB2.out _ hbj.out)
           have hall2:=zh (hnx.out ⟨hs'.out,hallj.out,hlast.out⟩)
           clear hallj hnx hno hs' hes2
           go_wp2_with fail
           exact⟨⟨k+1,by go_num,by omega,hBj,hall2⟩,by simp[intOf];omega⟩
        ·have hres:=zh (hnol.out (fun h=>he ⟨(Prod.mk.inj (hla.out.1 h)).1,(Prod.mk.inj (hla.out.1 h)).2⟩))
         have hBr:=zh (BB.out _ (BB2.out _ (Below.refl _ _)))
         clear hnol hla hno hnx hs'
         by_cases he1:ea=0
         ·subst he1
          have he2:¬ eb=(k:Int):=fun h=>he ⟨rfl,h⟩
          clear he
          go_wp2_with (go_at_call 171;refine(BS _).out.mono ?_;rintro e w2 ⟨rfl,rfl⟩)
          go_ret
          exact⟨og_ret hres.out.symm,hBr.out⟩
         ·clear he
          go_wp2_with (go_at_call 171;refine(BS _).out.mono ?_;rintro e w2 ⟨rfl,rfl⟩)
          go_ret
          exact⟨og_ret hres.out.symm,hBr.out⟩
       ·have hres:=zh (hno.out (desc_no_size hs))
        have hBr:=zh (BB.out _ (BB2.out _ (Below.refl _ _)))
        have hcs:¬ (0≤sz∧sz<32769)∨((0≤sz∧sz<32769)∧sz % 4≠0)∨((0≤sz∧sz<32769)∧sz % 4=0∧(es.length:Int)<1)∨((0≤sz∧sz<32769)∧sz % 4=0∧¬ (es.length:Int)<1∧5<(es.length:Int)):=by
         have:=size_cases hs
         omega
        clear hs hno hnx
        rcases hcs with h | ⟨h,h2⟩ | ⟨h,h2,h3⟩ | ⟨h,h2,h3,h4⟩
        ·rw[decide_eq_false h] at BS
         clear h
         go_wp2_with (go_at_call 171;refine(BS _).out.mono ?_;rintro e w2 ⟨rfl,rfl⟩)
         go_ret
         exact⟨og_ret hres.out.symm,hBr.out⟩
        ·rw[decide_eq_true h] at BS
         have n3:¬ sz.tmod 4=0:=by rw[tmod4 h.1];exact h2
         clear h h2
         go_wp2_with (go_at_call 171;refine(BS _).out.mono ?_;rintro e w2 ⟨rfl,rfl⟩)
         go_ret
         exact⟨og_ret hres.out.symm,hBr.out⟩
        ·rw[decide_eq_true h] at BS
         have n3:sz.tmod 4=0:=by rw[tmod4 h.1];exact h2
         clear h h2
         go_wp2_with (go_at_call 171;refine(BS _).out.mono ?_;rintro e w2 ⟨rfl,rfl⟩)
         go_ret
         exact⟨og_ret hres.out.symm,hBr.out⟩
        ·rw[decide_eq_true h] at BS
         have n3:sz.tmod 4=0:=by rw[tmod4 h.1];exact h2
         clear h h2
         go_wp2_with (go_at_call 171;refine(BS _).out.mono ?_;rintro e w2 ⟨rfl,rfl⟩)
         go_ret
         exact⟨og_ret hres.out.symm,hBr.out⟩
      ·obtain rfl:k=o.descs.length:=by omega
       have hds:=zh ((descsB_iff o).2 ⟨by omega,hall.out⟩)
       clear hall
       have c0:wr.cell? ⟨w.heap.size,0,none⟩=some (.string (txt o.name)):=(OBf.out wr hb.out).cell 0
       have c1:wr.cell? ⟨w.heap.size,1,none⟩=some (.int .u32 o.key):=(OBf.out wr hb.out).cell 1
       have c2:wr.cell? ⟨w.heap.size,2,none⟩=some (.slice AU o.uses.length cU):=(OBf.out wr hb.out).cell 2
       have c3:wr.cell? ⟨w.heap.size,3,none⟩=some (.slice AD o.descs.length cD):=(OBf.out wr hb.out).cell 3
       have c4:wr.cell? ⟨w.heap.size,4,none⟩=some (.int .i64 o.data):=(OBf.out wr hb.out).cell 4
       have c5:wr.cell? ⟨w.heap.size,5,none⟩=some (.string (txt o.strings)):=(OBf.out wr hb.out).cell 5
       have c6:wr.cell? ⟨w.heap.size,6,none⟩=some (.slice AC o.code.length cC):=(OBf.out wr hb.out).cell 6
       have c7:wr.cell? ⟨w.heap.size,7,none⟩=some (.slice AE o.entries.length cE):=(OBf.out wr hb.out).cell 7
       have c8:wr.cell? ⟨w.heap.size,8,none⟩=some (.int .i64 o.calls):=(OBf.out wr hb.out).cell 8
       have c9:wr.cell? ⟨w.heap.size,9,none⟩=some (.int .i64 o.places):=(OBf.out wr hb.out).cell 9
       have CI:=zh (contains_int o.entries _ o.code.length w.heap.size AC cC wr (HP1.out _ hb.out).entries c6 (by have:=hbd'.out;omega))
       have hea:=zh (entriesB_any o)
       have hea:Hid (entriesB o=!(o.entries.any fun x=>offPlace o.code.length x)):=zh hea.out
       generalize (o.entries.any fun x=>offPlace o.code.length x)=an at *
       cases an
       ·have hgc:=zh (good_coded hfH.out hnam.out hds.out ((boundsB_iff o).2 hbd'.out.2.2) hea.out)
        have OC:=zh (obj_coded o _ _ _ _ wr (HP1.out _ hb.out) hw.out hbd'.out.2.2.1 hbd'.out.2.2.2.1 hbd'.out.2.2.2.2.2.1 hfH.out.calls hfH.out.places)
        clear hea
        go_wp2_with fail
        refine CI.out.mono ?_
        rintro e w2 ⟨rfl,rfl⟩
        go_wp2_with fail
        refine OC.out.mono ?_
        rintro e w2 ⟨rfl,hb2⟩
        have hb2:=zh (hb.out.trans (hb2.mono hb.out.size))
        clear c0 c1 c2 c3 c4 c5 c6 c7 c8 c9 CI OC
        go_wp2_with fail
        go_ret
        exact⟨og_ret hgc.out.symm,BB.out _ hb2.out⟩
       ·have hres:=zh (good_no_entries hea.out)
        clear hea
        go_wp2_with fail
        refine CI.out.mono ?_
        rintro e w2 ⟨rfl,rfl⟩
        go_wp2_with fail
        go_ret
        exact⟨og_ret hres.out.symm,BB.out _ hb.out⟩
  ·have hres:=zh (goodb_no hbd)
   have hcs:=goodb_cases hbd
   clear hbd
   rcases hcs with h | ⟨h,h2⟩ | ⟨h,h2,h3⟩ | ⟨h,h2,h3,h4⟩ | ⟨h,h2,h3,h4,h5⟩ | ⟨h,h2,h3,h4,h5,h6⟩ | ⟨h,h2,h3,h4,h5,h6,h7⟩ | ⟨h,h2,h3,h4,h5,h6,h7,h8⟩
   ·go_wp2_with (go_at_call 171;refine(BW _).out.mono ?_;rintro e w2 ⟨rfl,rfl⟩)
    go_ret
    exact⟨og_ret hres.out.symm,BB.out _ hb1.out⟩
   ·go_wp2_with (go_at_call 171;refine(BW _).out.mono ?_;rintro e w2 ⟨rfl,rfl⟩)
    go_ret
    exact⟨og_ret hres.out.symm,BB.out _ hb1.out⟩
   ·have hdd:decide (0≤o.data∧o.data<4097)=false:=decide_eq_false h3
    rw[hdd] at BW
    clear hdd h3
    go_wp2_with (go_at_call 171;refine(BW _).out.mono ?_;rintro e w2 ⟨rfl,rfl⟩)
    go_ret
    exact⟨og_ret hres.out.symm,BB.out _ hb1.out⟩
   ·have hdd:decide (0≤o.data∧o.data<4097)=true:=decide_eq_true h3
    rw[hdd] at BW
    clear hdd h3
    go_wp2_with (go_at_call 171;refine(BW _).out.mono ?_;rintro e w2 ⟨rfl,rfl⟩)
    go_ret
    exact⟨og_ret hres.out.symm,BB.out _ hb1.out⟩
   ·have hdd:decide (0≤o.data∧o.data<4097)=true:=decide_eq_true h3
    rw[hdd] at BW
    have h5:((o.strings.length:Int) % 4==0)=false:=by rw[beq_eq_false_iff_ne];exact h5
    clear hdd h3
    go_wp2_with (go_at_call 171;refine(BW _).out.mono ?_;rintro e w2 ⟨rfl,rfl⟩)
    go_ret
    exact⟨og_ret hres.out.symm,BB.out _ hb1.out⟩
   ·have hdd:decide (0≤o.data∧o.data<4097)=true:=decide_eq_true h3
    rw[hdd] at BW
    clear hdd h3
    go_wp2_with (go_at_call 171;refine(BW _).out.mono ?_;rintro e w2 ⟨rfl,rfl⟩)
    go_ret
    exact⟨og_ret hres.out.symm,BB.out _ hb1.out⟩
   ·have hdd:decide (0≤o.data∧o.data<4097)=true:=decide_eq_true h3
    rw[hdd] at BW
    clear hdd h3
    go_wp2_with (go_at_call 171;refine(BW _).out.mono ?_;rintro e w2 ⟨rfl,rfl⟩)
    go_ret
    exact⟨og_ret hres.out.symm,BB.out _ hb1.out⟩
   ·have hdd:decide (0≤o.data∧o.data<4097)=true:=decide_eq_true h3
    rw[hdd] at BW
    clear hdd h3
    go_wp2_with (go_at_call 171;refine(BW _).out.mono ?_;rintro e w2 ⟨rfl,rfl⟩)
    go_ret
    exact⟨og_ret hres.out.symm,BB.out _ hb1.out⟩
end Go.Proofs.YtceflhffilldeaaGreat
