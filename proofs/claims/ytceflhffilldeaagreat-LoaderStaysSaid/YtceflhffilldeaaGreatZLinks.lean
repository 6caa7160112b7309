/-
  Joined: ZLinks.
-/
import Derived.Test.YtceflhffilldeaaGreatZDescs
import Derived.Test.YtceflhffilldeaaGreatZGoods
set_option linter.unusedVariables false
set_option linter.unusedSimpArgs false
set_option maxRecDepth 100000
set_option maxHeartbeats 16000000
namespace Go.Proofs.YtceflhffilldeaaGreat
open Go.RowKit ObjL
def bit (b:Bool):Int:=if b=true then 1 else 0
def LinksEnd (o:Ob) (e:Ending) (w:World):Prop:=
 match linksOf o with
 | none=>e=.returned (.tuple #[.slice none 0 0,.bool false])
 | some T=>∃ v,e=.returned (.tuple #[v,.bool true])∧Row .i64 w v (T.map bit)∧T.length=o.code.length
theorem links_none {o:Ob} (w:World) (h:linksOf o=none):LinksEnd o (.returned (.tuple #[.slice none 0 0,.bool false])) w:=by unfold LinksEnd;rw[h]
theorem links_some {o:Ob} {w:World} {T:List Bool} {v:Value} (h:linksOf o=some T) (hr:Row .i64 w v (T.map bit)) (hl:T.length=o.code.length):LinksEnd o (.returned (.tuple #[v,.bool true])) w:=by unfold LinksEnd;rw[h];exact⟨v,rfl,hr,hl⟩
theorem bits_at {M:List Bool} {i:Nat} (h:i<M.length):((M.map bit).map (Value.int .i64))[i]?=some (.int .i64 (bit (M.getD i false))):=by
 simp[List.getD,h]
theorem kc_far {W:World} {a:Addr} {g i:Nat} {v:Value} {x:Value} (hne:a.block≠g) (h:W.cell? a=some x):(W.setCell ⟨g,i,none⟩ v).cell? a=some x:=(World.cell?_setCell_far W ⟨g,i,none⟩ a v (fun e=>hne e.symm)).trans h
theorem lk_two {W:World} {a b:Addr} {x y:Value} (h:W.cell? a=some x) (k:W.cell? b=some y):W.cell? a=some x∧W.cell? b=some y:=⟨h,k⟩
theorem lk_two_call {W w2:World} {a b:Addr} {x y:Value} (h:W.cell? a=some x∧W.cell? b=some y) (ha:a.block<W.heap.size) (hb:b.block<W.heap.size) (hw:Below W.heap.size W w2):w2.cell? a=some x∧w2.cell? b=some y:=⟨(hw.cell ha).trans h.1,(hw.cell hb).trans h.2⟩
theorem bl_alloc_call {W w2:World} {o:Obj} (h:Below (W.alloc o).heap.size (W.alloc o) w2):Below W.heap.size W w2:=((Below.refl _ _).alloc (Nat.le_refl _) o).trans (h.mono (by simp))
theorem al_facts {W w2:World} {t:TypeId} {a b c d:Value} (h:Below (W.alloc (.cells #[a,b,c,d] t)).heap.size (W.alloc (.cells #[a,b,c,d] t)).drew w2) :
  w2.cell? ⟨W.heap.size,0,none⟩=some a∧w2.cell? ⟨W.heap.size,1,none⟩=some b∧w2.cell? ⟨W.heap.size,2,none⟩=some c∧w2.cell? ⟨W.heap.size,3,none⟩=some d∧w2.frozen? ⟨W.heap.size,0,none⟩=false∧w2.frozen? ⟨W.heap.size,1,none⟩=false∧w2.frozen? ⟨W.heap.size,2,none⟩=false∧w2.frozen? ⟨W.heap.size,3,none⟩=false:=by
 have hB:Blk w2 W.heap.size t #[a,b,c,d]:=(Blk.new W t #[a,b,c,d]).drew.below h (by simp)
 exact⟨hB.cell 0,hB.cell 1,hB.cell 2,hB.cell 3,hB.frozen 0,hB.frozen 1,hB.frozen 2,hB.frozen 3⟩
theorem lk_three_sets {W:World} {a b c:Addr} {x y z u0 u1 u2 u3:Value} {g:Nat} (h:W.cell? a=some x∧W.cell? b=some y∧W.cell? c=some z) (ha:a.block≠g) (hb:b.block≠g) (hc:c.block≠g) :
  ((((W.setCell ⟨g,0,none⟩ u0).setCell ⟨g,1,none⟩ u1).setCell ⟨g,2,none⟩ u2).setCell ⟨g,3,none⟩ u3).cell? a=some x∧((((W.setCell ⟨g,0,none⟩ u0).setCell ⟨g,1,none⟩ u1).setCell ⟨g,2,none⟩ u2).setCell ⟨g,3,none⟩ u3).cell? b=some y∧((((W.setCell ⟨g,0,none⟩ u0).setCell ⟨g,1,none⟩ u1).setCell ⟨g,2,none⟩ u2).setCell ⟨g,3,none⟩ u3).cell? c=some z:=by
 have k:∀ (V:World) (p:Addr) (i:Nat) (u v:Value),p.block≠g→V.cell? p=some v→(V.setCell ⟨g,i,none⟩ u).cell? p=some v:=fun V p i u v hp hv=>(World.cell?_setCell_far V ⟨g,i,none⟩ p u (fun e=>hp e.symm)).trans hv
 exact⟨k _ _ _ _ _ ha (k _ _ _ _ _ ha (k _ _ _ _ _ ha (k _ _ _ _ _ ha h.1))),k _ _ _ _ _ hb (k _ _ _ _ _ hb (k _ _ _ _ _ hb (k _ _ _ _ _ hb h.2.1))),k _ _ _ _ _ hc (k _ _ _ _ _ hc (k _ _ _ _ _ hc (k _ _ _ _ _ hc h.2.2)))⟩
theorem bl_alloc {W w2:World} {o:Obj} (h:Below W.heap.size W w2):Below W.heap.size W (w2.alloc o):=h.alloc h.size o
theorem lk_three {W:World} {a b c:Addr} {x y z:Value} (h:W.cell? a=some x) (k:W.cell? b=some y) (l:W.cell? c=some z):W.cell? a=some x∧W.cell? b=some y∧W.cell? c=some z:=⟨h,k,l⟩
theorem lk_three_call {W w2:World} {a b c:Addr} {x y z:Value} (h:W.cell? a=some x∧W.cell? b=some y∧W.cell? c=some z) (ha:a.block<W.heap.size) (hb:b.block<W.heap.size) (hc:c.block<W.heap.size) (hw:Below W.heap.size W w2):w2.cell? a=some x∧w2.cell? b=some y∧w2.cell? c=some z:=⟨(hw.cell ha).trans h.1,(hw.cell hb).trans h.2.1,(hw.cell hc).trans h.2.2⟩
theorem ref23_links (o:Ob) (vU vD vC vE:Value) (w:World) (hp:ObParts w o vU vD vC vE) (hw:∀ x∈o.code,0≤x∧x≤4294967295) (hd:0≤o.data∧o.data≤4096) (hst:o.strings.length≤32768) (hc8:o.code.length≤8192) (hca:I64 o.calls) (hpl:I64 o.places) :
  Calls Tryz.prog 53 #[.agg (obCells o vU vD vC vE)] w fun e w'=>LinksEnd o e w'∧Below w.heap.size w w':=by
 have hp':=zh hp
 obtain⟨hU,hD,hC,hE⟩:=hp
 obtain⟨-,AU,cU,rfl,-⟩:=hU
 obtain⟨-,AD,cD,rfl,-⟩:=hD
 obtain⟨-,AE,cE,rfl,-⟩:=hE
 obtain⟨hC1,AC,cC,rfl,-⟩:=hC
 obtain⟨i0,hi0,hz0,hz1,hz2⟩:=info_parts int_info_
 have k6:(obCells o (.slice AU o.uses.length cU) (.slice AD o.descs.length cD) (.slice AC o.code.length cC) (.slice AE o.entries.length cE))[6]?=some (.slice AC o.code.length cC):=rfl
 have k8:(obCells o (.slice AU o.uses.length cU) (.slice AD o.descs.length cD) (.slice AC o.code.length cC) (.slice AE o.entries.length cE))[8]?=some (.int .i64 o.calls):=rfl
 have k9:(obCells o (.slice AU o.uses.length cU) (.slice AD o.descs.length cD) (.slice AC o.code.length cC) (.slice AE o.entries.length cE))[9]?=some (.int .i64 o.places):=rfl
 have hK0:∃ K,obCells o (.slice AU o.uses.length cU) (.slice AD o.descs.length cD) (.slice AC o.code.length cC) (.slice AE o.entries.length cE)=K:=⟨_,rfl⟩
 obtain⟨K,hK⟩:=hK0
 rw[hK] at k6 k8 k9 ⊢
 have hK:=zh hK
 go_enter Tryz.func53,Tryz.ntmps53
 go_upto_region 1 with fail
 have L1:=zh (Blk.new w 48 K)
 have B1:=zh ((Below.refl w.heap.size w).alloc (Nat.le_refl _) (.cells K 48))
 have z1:w.heap.size<(w.alloc (.cells K 48)).heap.size:=by simp
 generalize w.alloc (.cells K 48)=W1 at *
 have HP1:=zh (hp'.out.below B1.out)
 have L1k:Hid (∀ W,Below W1.heap.size W1 W→Blk W w.heap.size 48 K):=zh (fun W h=>L1.out.below h z1)
 have c6:W1.cell? ⟨w.heap.size,6,none⟩=some (.slice AC o.code.length cC):=(L1.out.cell 6).trans k6
 go_upto_region 2 with (first | (at_make;refine wpList_make_full _ rfl (.tmp 14) (.tmp 14) 46 rfl W1.heap.size 3 i0 _ 1 Tryz.underlying46 hi0 hz0 hz1 .i64 .i64 _ _ o.code.length rfl rfl rfl rfl (by rw[hz2];omega) (by simp only[maxLen];omega) (Nat.le_refl _) ?_;intro W2 hown2 hg2))
 have hown2:Hid (W2.ownsRow W1.heap.size 3 1 (.slice (some ⟨W1.heap.size,0,none⟩) o.code.length o.code.length) o.code.length (((List.replicate o.code.length false).map bit).map (Value.int .i64))):=zh (by
  have e:(Value.int .i64 0).cells=#[Value.int .i64 0]:=rfl
  rw[e,toList_madeCells_one,Nat.mul_one] at hown2
  rw[List.map_replicate,List.map_replicate]
  exact hown2)
 have B2:=zh ((Below.refl W1.heap.size W1).grown hg2 (Nat.le_refl _) (fun k hk=>by cases hk))
 clear hg2 c6
 have c8:W2.cell? ⟨w.heap.size,8,none⟩=some (.int .i64 o.calls):=((L1k.out _ B2.out).cell 8).trans k8
 have c9:W2.cell? ⟨w.heap.size,9,none⟩=some (.int .i64 o.places):=((L1k.out _ B2.out).cell 9).trans k9
 go_upto_region 3 with fail
 have hgT:=zh (show w.heap.size<W1.heap.size from z1)
 have hS2:W1.heap.size<W2.heap.size:=(hown2.out.lt _ rfl).2
 have P3:=zh (Blk.new W2 3 #[.int .i64 o.calls,.int .i64 o.places])
 have B3:=zh (B2.out.alloc (Nat.le_of_lt hS2) (.cells #[.int .i64 o.calls,.int .i64 o.places] 3))
 have hS3:W2.heap.size<(W2.alloc (.cells #[.int .i64 o.calls,.int .i64 o.places] 3)).heap.size:=by simp
 have hown3:=zh (fc_own_below hown2.out ((Below.refl W2.heap.size W2).alloc (Nat.le_refl _) (.cells #[.int .i64 o.calls,.int .i64 o.places] 3)))
 generalize W2.alloc (.cells #[.int .i64 o.calls,.int .i64 o.places] 3)=W3 at *
 clear hown2 B2 c8 c9
 have hz:=zh (And.intro hS2 hS3)
 have hstart:=zh (linksFrom_start o)
 clear hS2 hS3 z1 k8 k9
 go_wp2_with fail
 go_loopw [6] (fun i wr=>∃ (k:Nat) (T:List Bool),i=.int .i64 k∧k≤2∧T.length=o.code.length∧Hid (wr.ownsRow W1.heap.size 3 1 (.slice (some ⟨W1.heap.size,0,none⟩) o.code.length o.code.length) o.code.length ((T.map bit).map (Value.int .i64)))∧Hid (Kept (fun q=>q<W3.heap.size∧q≠W1.heap.size) W3 wr)∧Hid (linksFrom o k T=linksOf o)) (fun i _=>2-(intOf i).toNat)
 case atStart=>exact⟨0,_,rfl,by omega,by simp,hown3,zh (Kept.refl _ _),hstart⟩
 case round=>
  clear hown3 hstart
  obtain⟨k,T,rfl,hk,hT,hown,hK2,hl⟩:=hrel
  have hbw:Hid (Below W1.heap.size W1 wr):=zh (B3.out.trans (hK2.out.to_below fun q hq=>⟨by have:=hz.out;omega,by omega⟩))
  by_cases hk2:(k:Int)<2
  ·have hkn:k<2:=by omega
   have hK1:=hK2.out
   have cP:wr.cell? ((⟨W2.heap.size,0,none⟩:Addr).add k)=some (.int .i64 (headAt o k)):=by
    rw[fc_add0]
    refine(hK1.cell (p:=⟨W2.heap.size,k,none⟩) ⟨hz.out.2,Nat.ne_of_gt hz.out.1⟩).trans ((P3.out.cell k).trans ?_)
    have:k=0∨k=1:=by omega
    rcases this with rfl | rfl<;>rfl
   rw[fc_add0] at cP
   have c6:wr.cell? ⟨w.heap.size,6,none⟩=some (.slice AC o.code.length cC):=((L1k.out _ hbw.out).cell 6).trans k6
   have hRc:=zh (HP1.out.code.below hbw.out)
   have hhd:I64 (headAt o k):=by unfold headAt;split<;>assumption
   have FC:=zh (ref22_chain o.code (headAt o k) _ wr.drew (hRc.out.below (Below.refl _ _).drew) (fun i hi=>by have:=hw (o.code.getD i 0) (by rw[List.getD_eq_getElem?_getD,List.getElem?_eq_getElem hi];exact List.getElem_mem _);omega) (by omega) hhd.1 hhd.2)
   clear hK1
   obtain⟨bb,hbb⟩:∃ b,(k==0)=b:=⟨_,rfl⟩
   have hkb:((k:Int)==0)=bb:=by rw[← hbb];cases k<;>simp<;>omega
   go_wp2_with fail
   have hgw1:Hid (w.heap.size<wr.heap.size∧W2.heap.size<wr.heap.size):=zh (by have:=hK2.out.size;have:=hz.out;have:=hgT.out;omega)
   have S0:=lk_two (W:=wr.drew) c6 cP
   clear c6 cP
   go_region_held3 (fun w'=>w'.cell? ⟨w.heap.size,6,none⟩=some (.slice AC o.code.length cC)∧w'.cell? ⟨W2.heap.size,k,none⟩=some (.int .i64 (headAt o k)))
    (first | exact S0 | exact lk_two_call S0 hgw1.out.1 hgw1.out.2 (by assumption))
    (first
     | (go_at_call 72;refine FC.out.mono ?_;rintro e W5 ⟨⟨v5,rfl,hown5⟩,hb5⟩))
   have hb5:Below wr.heap.size wr W5:=(Below.refl wr.heap.size wr).drew.trans hb5
   have hown5:W5.ownsRow wr.heap.size 3 1 v5 (Fx.clist o.code (headAt o k)).length ((Fx.clist o.code (headAt o k)).map (Value.int .i64)):=hown5
   have Bw5:Hid (Below w.heap.size w W5):=zh ((B1.out.trans (hbw.out.mono (Nat.le_of_lt hgT.out))).trans (hb5.mono (Nat.le_trans (B1.out.trans (hbw.out.mono (Nat.le_of_lt hgT.out))).size (Nat.le_refl _))))
   clear S0 FC
   cases hch:Fx.chain o.code (headAt o k) with
   | none=>
    obtain⟨e1,e2⟩:=cerr_none hch
    have hres:=zh (hl.out.symm.trans (linksFrom_no hkn (linksAt_none T hch)))
    rw[e1]
    rw[e2] at hown5
    obtain⟨-,A5,c5,rfl,-⟩:=row_of_own hown5
    clear e1 e2 hch hown5 hown hkb
    go_wp2_with fail
    go_ret2
    exact⟨links_none _ hres.out,Bw5.out⟩
   | some l=>
    obtain⟨e1,e2⟩:=cerr_some hch
    have hla:=zh (linksAt_some T hch)
    rw[hbb] at hla
    have hgood:=zh (Fx.chain_good hch)
    rw[e1]
    rw[e2] at hown5
    have hlt5:=zh hown5.lt
    obtain⟨hll,A5,cap5,rfl,hl5⟩:=row_of_own hown5
    have hl5:=zh hl5
    have hown6:=zh (fc_own_below hown.out hb5)
    have hK6:=zh (hK2.out.below hb5 (fun q hq=>Nat.lt_of_lt_of_le hq.1 hK2.out.size))
    have hgw:Hid (W1.heap.size<wr.heap.size):=zh (by have:=hK2.out.size;have:=hz.out;omega)
    clear e1 e2 hch hown5 hown hK2 hbw hRc hgw1
    go_wp2_with fail
    generalize wr=wa at *
    go_loopw [9] (fun i wr=>∃ (j:Nat) (M:List Bool),i=.int .i64 j∧j≤l.length∧M.length=o.code.length∧Hid (wr.ownsRow W1.heap.size 3 1 (.slice (some ⟨W1.heap.size,0,none⟩) o.code.length o.code.length) o.code.length ((M.map bit).map (Value.int .i64)))∧Hid (Kept (fun q=>q<W5.heap.size∧q≠W1.heap.size) W5 wr)∧Hid (ObjL.mark (okAt o bb) (l.drop j) M=linksAt o k T)) (fun i _=>l.length-(intOf i).toNat)
    case atStart=>exact⟨0,T,rfl,by omega,hT,hown6,zh (Kept.refl _ _),zh (by rw[hla.out];rfl)⟩
    case round=>
     clear hown6
     obtain⟨j,M,rfl,hj,hM,hownM,hKM,hmk⟩:=hrel
     by_cases hjl:(j:Int)<(l.length:Int)
     ·have hjn:j<l.length:=by omega
      obtain⟨g1,g2,g3,-⟩:=hgood.out j hjn
      obtain⟨al,rfl,hal,hcl⟩:=hl5.out j hjn
      have hlo:=(hlt5.out al.block rfl).1
      have hal2:al.block≠W1.heap.size:=by have:=hgw.out;omega
      have hcl:wr.cell? (al.add j)=some (.int .i64 (l.getD j 0)):=(hKM.out.cell (p:=al.add j) (by rw[block_add];exact⟨hal,hal2⟩)).trans hcl
      obtain⟨pn,hpn⟩:∃ pn:Nat,l.getD j 0=(pn:Int):=⟨(l.getD j 0).toNat,by omega⟩
      have hno:=fun h=>zh (mark_no (ok:=okAt o bb) (T:=M) hjn hpn h)
      have hon:=fun h1 h2 h3=>zh (mark_on (ok:=okAt o bb) (T:=M) hjn hpn h1 h2 h3)
      rw[hpn] at hcl g2
      have hp1:(pn:Int)+1<o.code.length:=by omega
      have hp0:(pn:Int)<o.code.length:=by omega
      have hbad:=fun h=>zh (hl.out.symm.trans (linksFrom_no hkn (hmk.out.symm.trans h)))
      have BK:Hid (Below W1.heap.size W1 wr):=zh ((B3.out.trans (hK6.out.to_below fun q hq=>⟨by have:=hz.out;omega,by omega⟩)).trans (hKM.out.to_below fun q hq=>⟨by have:=hgw.out;have:=hb5.size;omega,by omega⟩))
      have Bwr:Hid (Below w.heap.size w wr):=zh (B1.out.trans (BK.out.mono (Nat.le_of_lt hgT.out)))
      have hRc:=(HP1.out.code.below BK.out)
      obtain⟨-,A9,c9,e9,hc⟩:=hRc
      injection e9 with e9 _ e10
      subst e9 e10
      obtain⟨ad,rfl,had,hx⟩:=hc pn (by omega)
      obtain⟨ad2,e2,-,hx2⟩:=hc (pn+1) (by omega)
      obtain rfl:=Option.some.inj e2
      have c6:wr.cell? ⟨w.heap.size,6,none⟩=some (.slice (some ad) o.code.length cC):=((L1k.out _ BK.out).cell 6).trans k6
      have hxa:=hw (o.code.getD pn 0) (by rw[List.getD_eq_getElem?_getD,List.getElem?_eq_getElem (by omega)];exact List.getElem_mem _)
      have hxb:=hw (o.code.getD (pn+1) 0) (by rw[List.getD_eq_getElem?_getD,List.getElem?_eq_getElem (by omega)];exact List.getElem_mem _)
      have hok:Hid (okAt o bb pn=linkVal o bb (Fx.reg (o.code.getD pn 0)) (Fx.sort (o.code.getD pn 0)) (Fx.mod (o.code.getD pn 0)) (o.code.getD (pn+1) 0)):=zh rfl
      generalize o.code.getD pn 0=xa at *
      generalize o.code.getD (pn+1) 0=xb at *
      have FP:=fun W=>zh (ref22_parts xa W (by omega) (by omega))
      have hlt1:w.heap.size<wr.heap.size:=by have:=BK.out.size;have:=hgT.out;omega
      have hlt2:(al.add j).block<wr.heap.size:=by rw[block_add];have:=hKM.out.size;omega
      have hlt3:(ad.add pn).block<wr.heap.size:=by rw[block_add];exact had
      clear hc e2 hpn hal hlo g1 g2 g3
      go_upto_region 12 with fail
      have S0:=lk_three (W:=wr.drew) c6 hcl hx
      go_cut [10,11] from 43 to 54 (fun a b wx=>∃ g:Nat,a=.pointer (some ⟨g,0,none⟩)∧b=.bool (Fx.isLink xa)∧Blk wx g 159 #[.int .i64 (Fx.reg xa),.int .i64 (Fx.sort xa),.int .i64 (Fx.mod xa),.int .i64 (Fx.back xa)]∧Below wr.heap.size wr wx)
      case first=>
       have BD:Below wr.heap.size wr wr.drew:=(Below.refl _ _).drew
       go_region_held3 (fun w'=>w'.cell? ⟨w.heap.size,6,none⟩=some (.slice (some ad) o.code.length cC)∧w'.cell? (al.add j)=some (.int .i64 pn)∧w'.cell? (ad.add pn)=some (.int .u32 xa))
        (first | exact S0 | exact lk_three_call S0 hlt1 hlt2 hlt3 (by assumption) | exact lk_three_call S0 hlt1 hlt2 hlt3 ((Below.refl _ _).alloc (Nat.le_refl _) _) | exact lk_three_call S0 hlt1 hlt2 hlt3 (bl_alloc (by assumption)) | exact lk_three_sets (lk_three_call S0 hlt1 hlt2 hlt3 (by assumption)) (Nat.ne_of_lt hlt1) (Nat.ne_of_lt hlt2) (Nat.ne_of_lt hlt3))
        (first
         | (go_at_call 73;refine(FP _).out.mono ?_;rintro e W7 ⟨rfl,hb7⟩;have hB7:Below wr.drew.heap.size wr.drew W7:=(by first | exact hb7 | exact bl_alloc_call hb7);try (have hF:=al_facts hb7;obtain⟨F0,F1,F2,F3,F4,F5,F6,F7⟩:=hF)))
       ·have hBr:=zh (BD.trans hB7)
        clear S0 hb7 hB7
        go_wp2_with fail
        go_meet
        exact⟨W7.heap.size,rfl,rfl,Blk.new _ _ _,hBr.out.alloc hBr.out.size _⟩
       ·have hBr:=zh (BD.trans hB7)
        have hPt:=zh ((Blk.new wr 159 #[.int .i64 0,.int .i64 0,.int .i64 0,.int .i64 0]).drew.below hb7 (by simp))
        clear S0 hb7 hB7 F0 F1 F2 F3 F4 F5 F6 F7
        go_wp2_with fail
        go_meet
        exact⟨wr.heap.size,rfl,rfl,(((hPt.out.set_ 0 _).set_ 1 _).set_ 2 _).set_ 3 _,(((hBr.out.setCell (Nat.le_refl _) _).setCell (Nat.le_refl _) _).setCell (Nat.le_refl _) _).setCell (Nat.le_refl _) _⟩
      case rest=>
       obtain⟨g,rfl,rfl,hPt,hb8⟩:=hcut
       go_upto_region 13 with fail
       have hown9:=zh (fc_own_below hownM.out hb8)
       have K9:=zh (hKM.out.below hb8 (fun q hq=>Nat.lt_of_lt_of_le hq.1 hKM.out.size))
       have BK9:=zh (BK.out.trans (hb8.mono (Nat.le_of_lt (show W1.heap.size<wr.heap.size by have:=hgw.out;have:=hKM.out.size;have:=hb5.size;omega))))
       have Bwc:Hid (Below w.heap.size w wc):=zh (Bwr.out.trans (hb8.mono Bwr.out.size))
       have hpos1:w.heap.size<wc.heap.size:=Nat.lt_of_lt_of_le hlt1 hb8.size
       have hpos2:(al.add j).block<wc.heap.size:=Nat.lt_of_lt_of_le hlt2 hb8.size
       have hpos3:(ad.add pn).block<wc.heap.size:=Nat.lt_of_lt_of_le hlt3 hb8.size
       have hpos4:W1.heap.size<wc.heap.size:=(hown9.out.lt _ rfl).2
       have hOB:=zh (L1k.out _ BK9.out)
       have C:∀ (i:Nat) (x:Value),K[i]?=some x→∀ u:Cls wc,u.w.cell? ⟨w.heap.size,i,none⟩=some x:=fun i x h u=>Cls.cell ((hOB.out.cell i).trans h) hpos1 u
       have C0:=C 0 (.string (txt o.name)) (by rw[← hK.out];rfl)
       have C1:=C 1 (.int .u32 o.key) (by rw[← hK.out];rfl)
       have C2:=C 2 (.slice AU o.uses.length cU) (by rw[← hK.out];rfl)
       have C3:=C 3 (.slice AD o.descs.length cD) (by rw[← hK.out];rfl)
       have C4:=C 4 (.int .i64 o.data) (by rw[← hK.out];rfl)
       have C5:=C 5 (.string (txt o.strings)) (by rw[← hK.out];rfl)
       have C6:=C 6 (.slice (some ad) o.code.length cC) (by rw[← hK.out];rfl)
       have C7:=C 7 (.slice AE o.entries.length cE) (by rw[← hK.out];rfl)
       have C8:=C 8 (.int .i64 o.calls) (by rw[← hK.out];rfl)
       have C9:=C 9 (.int .i64 o.places) (by rw[← hK.out];rfl)
       have D0:∀ u:Cls wc,u.w.cell? ⟨g,0,none⟩=some (.int .i64 (Fx.reg xa)):=Cls.cell (hPt.cell 0) hPt.lt
       have D1:∀ u:Cls wc,u.w.cell? ⟨g,1,none⟩=some (.int .i64 (Fx.sort xa)):=Cls.cell (hPt.cell 1) hPt.lt
       have D2:∀ u:Cls wc,u.w.cell? ⟨g,2,none⟩=some (.int .i64 (Fx.mod xa)):=Cls.cell (hPt.cell 2) hPt.lt
       have D3:∀ u:Cls wc,u.w.cell? ⟨g,3,none⟩=some (.int .i64 (Fx.back xa)):=Cls.cell (hPt.cell 3) hPt.lt
       have EL:∀ u:Cls wc,u.w.cell? (al.add j)=some (.int .i64 pn):=Cls.cell ((hb8.cell (p:=al.add j) hlt2).trans hcl) hpos2
       have EB:∀ u:Cls wc,u.w.cell? ⟨ad.block,ad.off+(pn+1),none⟩=some (.int .u32 xb):=Cls.cell (p:=⟨ad.block,ad.off+(pn+1),none⟩) ((hb8.cell (p:=⟨ad.block,ad.off+(pn+1),none⟩) had).trans hx2) (Nat.lt_of_lt_of_le had hb8.size)
       have ca:=hown9.out.cellAt pn (by omega)
       have cb:=hown9.out.cellAt (pn+1) (by omega)
       rw[bits_at (by omega)] at ca cb
       have FA:∀ u:Cls wc,u.w.cell? ⟨W1.heap.size,pn,none⟩=some (.int .i64 (bit (M.getD pn false))):=Cls.cell ca hpos4
       have FB:∀ u:Cls wc,u.w.cell? ⟨W1.heap.size,pn+1,none⟩=some (.int .i64 (bit (M.getD (pn+1) false))):=Cls.cell cb hpos4
       have hal9:(al.add j).block≠W1.heap.size:=by rw[block_add];exact hal2
       have hcl9:wc.cell? (al.add j)=some (.int .i64 pn):=(hb8.cell (p:=al.add j) hlt2).trans hcl
       have IN:=fun (u:Cls wc)=>zh (ref23_within o AU AD (some ad) AE cU cD cC cE u.w (Fx.reg xa) (Fx.sort xa) (Fx.mod xa) (Fx.back xa) xb (lk_sort_bd xa hxa.1 hxa.2) (lk_mod_bd xa hxa.1 hxa.2).1 hd hst)
       have hkv:okAt o bb pn=((bb==(Fx.sort xa==0)) && (!bb || Fx.reg xa==0) && withinVal o (Fx.sort xa) (Fx.mod xa) xb):=hok.out.trans (linkVal_eq _ _ _ _ _ _)
       obtain⟨sb,hsb⟩:∃ b,(Fx.sort xa==0)=b:=⟨_,rfl⟩
       obtain⟨rb,hrb⟩:∃ b,(Fx.reg xa==0)=b:=⟨_,rfl⟩
       rw[hsb,hrb] at hkv
       have hrn:(Fx.reg xa != 0)=!rb:=by rw[bne,hrb]
       have hkv:=zh hkv
       have hx0:(0:Int)≤pn:=by omega
       have hx1:(0:Int)≤(pn:Int)+1:=by omega
       have hbW:∀ wq,Below wc.heap.size wc wq→Below w.heap.size w wq:=fun wq h=>Bwc.out.trans (h.mono Bwc.out.size)
       have hbW:=zh hbW
       clear hcl hx hx2 hbb hok ca cb C hownM hKM Bwr hb8 hpos1 hpos2 hpos3 hlt1 hlt2 hlt3 FP c6 hPt hOB BK
       have hwr:IntKind.i64.wrap ((pn:Int)+1)=(pn:Int)+1:=by rw[IntKind.wrap_i64];omega
       generalize withinVal o (Fx.sort xa) (Fx.mod xa) xb=wv at *
       generalize Fx.sort xa=xs at *
       generalize Fx.reg xa=xr at *
       generalize Fx.mod xa=xm at *
       generalize Fx.back xa=xk at *
       cases hA:M.getD pn false
       ·cases hB:M.getD (pn+1) false
        ·rw[hA] at FA
         rw[hB] at FB
         replace FA:∀ u:Cls wc,u.w.cell? ⟨W1.heap.size,pn,none⟩=some (.int .i64 0):=fun u=>FA u
         replace FB:∀ u:Cls wc,u.w.cell? ⟨W1.heap.size,pn+1,none⟩=some (.int .i64 0):=fun u=>FB u
         cases bb
         ·cases sb
          ·cases wv
           ·have hres:=zh (hbad (hno (Or.inr (Or.inr hkv.out))).out).out
            refine wp_region_cls (by kernel_rfl) (by kernel_rfl) ?_
            repeat (go_big_quiet_step ((go_at_call 74;exact cls_call (IN _).out)))
            refine wpQuiet_nil ?_
            intro wq hw0
            have hq:Below wc.heap.size wc wq:=(by obtain⟨u,rfl⟩:=hw0;exact u.h)
            clear hw0
            have hBq:=zh (hbW.out wq hq)
            clear IN C0 C1 C2 C3 C4 C5 C6 C7 C8 C9 D0 D1 D2 D3 EL EB FA FB hwr
            go_wp2_with fail
            go_ret2
            exact⟨links_none _ hres.out,hBq.out⟩
           ·have hkv:Hid (okAt o false pn=true):=zh hkv.out
            refine wp_region_cls (by kernel_rfl) (by kernel_rfl) ?_
            repeat (go_big_quiet_step ((go_at_call 74;exact cls_call (IN _).out)))
            refine wpQuiet_nil ?_
            intro wq hw0
            have hq:Below wc.heap.size wc wq:=(by obtain⟨u,rfl⟩:=hw0;exact u.h)
            clear hw0
            have hmk2:=zh ((hon hA hB hkv.out).out.symm.trans hmk.out)
            have own10:=zh (fc_own_below hown9.out hq)
            have K10:=zh (K9.out.below hq (fun q hq1=>Nat.lt_of_lt_of_le hq1.1 K9.out.size))
            have hclq:wq.cell? (al.add j)=some (.int .i64 pn):=EL ⟨wq,hq⟩
            clear IN C0 C1 C2 C3 C4 C5 C6 C7 C8 C9 D0 D1 D2 D3 EL EB FA FB hwr hno hon hbad hown9 K9
            have ca:=own10.out.cellAt pn (by omega)
            have cb:=own10.out.cellAt (pn+1) (by omega)
            rw[bits_at (by omega),hA] at ca
            rw[bits_at (by omega),hB] at cb
            have ca:wq.cell? ⟨W1.heap.size,pn,none⟩=some (.int .i64 0):=ca
            have cb:wq.cell? ⟨W1.heap.size,pn+1,none⟩=some (.int .i64 0):=cb
            have fa:=own10.out.frozenAt pn
            have fb:=own10.out.frozenAt (pn+1)
            have O1:=(own10.out.drew.stored pn (.int .i64 1)).1
            have O2:=(O1.stored (pn+1) (.int .i64 1)).1
            have e1:Value.int .i64 1=Value.int .i64 (bit true):=rfl
            rw[e1,← List.map_set,← List.map_set,← List.map_set,← List.map_set] at O2
            have O2:=zh O2
            have K11:=zh ((K10.out.drew.setCell (p:=⟨W1.heap.size,pn,none⟩) (fun h=>h.2 rfl) (.int .i64 1)).setCell (p:=⟨W1.heap.size,pn+1,none⟩) (fun h=>h.2 rfl) (.int .i64 1))
            have hMl:((M.set pn true).set (pn+1) true).length=o.code.length:=by simp[hM]
            have hx2:(pn:Int)<o.code.length:=by omega
            clear hA hB O1 own10 K10 e1
            go_upto_region 15 with fail
            have hwr:IntKind.i64.wrap ((pn:Int)+1)=(pn:Int)+1:=by rw[IntKind.wrap_i64];omega
            have hclq2:wq.drew.cell? (al.add j)=some (.int .i64 pn):=hclq
            go_region_held3 (fun w'=>w'.cell? (al.add j)=some (.int .i64 pn)) (first | exact hclq2 | exact kc_far hal9 (by assumption)) (fail)
            go_wp2_with fail
            exact⟨⟨j+1,_,by go_num,by omega,hMl,O2,K11,hmk2⟩,by simp[intOf];omega⟩
          ·have hres:=zh (hbad (hno (Or.inr (Or.inr hkv.out))).out).out
           refine wp_region_cls (by kernel_rfl) (by kernel_rfl) ?_
           repeat (go_big_quiet_step (fail))
           refine wpQuiet_nil ?_
           intro wq hw0
           have hq:Below wc.heap.size wc wq:=(by obtain⟨u,rfl⟩:=hw0;exact u.h)
           clear hw0
           have hBq:=zh (hbW.out wq hq)
           clear IN C0 C1 C2 C3 C4 C5 C6 C7 C8 C9 D0 D1 D2 D3 EL EB FA FB hwr
           go_wp2_with fail
           go_ret2
           exact⟨links_none _ hres.out,hBq.out⟩
         ·cases sb
          ·have hres:=zh (hbad (hno (Or.inr (Or.inr hkv.out))).out).out
           refine wp_region_cls (by kernel_rfl) (by kernel_rfl) ?_
           repeat (go_big_quiet_step (fail))
           refine wpQuiet_nil ?_
           intro wq hw0
           have hq:Below wc.heap.size wc wq:=(by obtain⟨u,rfl⟩:=hw0;exact u.h)
           clear hw0
           have hBq:=zh (hbW.out wq hq)
           clear IN C0 C1 C2 C3 C4 C5 C6 C7 C8 C9 D0 D1 D2 D3 EL EB FA FB hwr
           go_wp2_with fail
           go_ret2
           exact⟨links_none _ hres.out,hBq.out⟩
          ·cases rb
           ·have hres:=zh (hbad (hno (Or.inr (Or.inr hkv.out))).out).out
            refine wp_region_cls (by kernel_rfl) (by kernel_rfl) ?_
            repeat (go_big_quiet_step (fail))
            refine wpQuiet_nil ?_
            intro wq hw0
            have hq:Below wc.heap.size wc wq:=(by obtain⟨u,rfl⟩:=hw0;exact u.h)
            clear hw0
            have hBq:=zh (hbW.out wq hq)
            clear IN C0 C1 C2 C3 C4 C5 C6 C7 C8 C9 D0 D1 D2 D3 EL EB FA FB hwr
            go_wp2_with fail
            go_ret2
            exact⟨links_none _ hres.out,hBq.out⟩
           ·cases wv
            ·have hres:=zh (hbad (hno (Or.inr (Or.inr hkv.out))).out).out
             refine wp_region_cls (by kernel_rfl) (by kernel_rfl) ?_
             repeat (go_big_quiet_step ((go_at_call 74;exact cls_call (IN _).out)))
             refine wpQuiet_nil ?_
             intro wq hw0
             have hq:Below wc.heap.size wc wq:=(by obtain⟨u,rfl⟩:=hw0;exact u.h)
             clear hw0
             have hBq:=zh (hbW.out wq hq)
             clear IN C0 C1 C2 C3 C4 C5 C6 C7 C8 C9 D0 D1 D2 D3 EL EB FA FB hwr
             go_wp2_with fail
             go_ret2
             exact⟨links_none _ hres.out,hBq.out⟩
            ·have hkv:Hid (okAt o true pn=true):=zh hkv.out
             refine wp_region_cls (by kernel_rfl) (by kernel_rfl) ?_
             repeat (go_big_quiet_step ((go_at_call 74;exact cls_call (IN _).out)))
             refine wpQuiet_nil ?_
             intro wq hw0
             have hq:Below wc.heap.size wc wq:=(by obtain⟨u,rfl⟩:=hw0;exact u.h)
             clear hw0
             have hmk2:=zh ((hon hA hB hkv.out).out.symm.trans hmk.out)
             have own10:=zh (fc_own_below hown9.out hq)
             have K10:=zh (K9.out.below hq (fun q hq1=>Nat.lt_of_lt_of_le hq1.1 K9.out.size))
             have hclq:wq.cell? (al.add j)=some (.int .i64 pn):=EL ⟨wq,hq⟩
             clear IN C0 C1 C2 C3 C4 C5 C6 C7 C8 C9 D0 D1 D2 D3 EL EB FA FB hwr hno hon hbad hown9 K9
             have ca:=own10.out.cellAt pn (by omega)
             have cb:=own10.out.cellAt (pn+1) (by omega)
             rw[bits_at (by omega),hA] at ca
             rw[bits_at (by omega),hB] at cb
             have ca:wq.cell? ⟨W1.heap.size,pn,none⟩=some (.int .i64 0):=ca
             have cb:wq.cell? ⟨W1.heap.size,pn+1,none⟩=some (.int .i64 0):=cb
             have fa:=own10.out.frozenAt pn
             have fb:=own10.out.frozenAt (pn+1)
             have O1:=(own10.out.drew.stored pn (.int .i64 1)).1
             have O2:=(O1.stored (pn+1) (.int .i64 1)).1
             have e1:Value.int .i64 1=Value.int .i64 (bit true):=rfl
             rw[e1,← List.map_set,← List.map_set,← List.map_set,← List.map_set] at O2
             have O2:=zh O2
             have K11:=zh ((K10.out.drew.setCell (p:=⟨W1.heap.size,pn,none⟩) (fun h=>h.2 rfl) (.int .i64 1)).setCell (p:=⟨W1.heap.size,pn+1,none⟩) (fun h=>h.2 rfl) (.int .i64 1))
             have hMl:((M.set pn true).set (pn+1) true).length=o.code.length:=by simp[hM]
             have hx2:(pn:Int)<o.code.length:=by omega
             clear hA hB O1 own10 K10 e1
             go_upto_region 15 with fail
             have hwr:IntKind.i64.wrap ((pn:Int)+1)=(pn:Int)+1:=by rw[IntKind.wrap_i64];omega
             have hclq2:wq.drew.cell? (al.add j)=some (.int .i64 pn):=hclq
             go_region_held3 (fun w'=>w'.cell? (al.add j)=some (.int .i64 pn)) (first | exact hclq2 | exact kc_far hal9 (by assumption)) (fail)
             go_wp2_with fail
             exact⟨⟨j+1,_,by go_num,by omega,hMl,O2,K11,hmk2⟩,by simp[intOf];omega⟩
        ·have hres:=zh (hbad (hno (Or.inr (Or.inl hB))).out).out
         rw[hA] at FA
         rw[hB] at FB
         replace FA:∀ u:Cls wc,u.w.cell? ⟨W1.heap.size,pn,none⟩=some (.int .i64 0):=fun u=>FA u
         replace FB:∀ u:Cls wc,u.w.cell? ⟨W1.heap.size,pn+1,none⟩=some (.int .i64 1):=fun u=>FB u
         refine wp_region_cls (by kernel_rfl) (by kernel_rfl) ?_
         repeat (go_big_quiet_step (fail))
         refine wpQuiet_nil ?_
         intro wq hw0
         have hq:Below wc.heap.size wc wq:=(by obtain⟨u,rfl⟩:=hw0;exact u.h)
         clear hw0
         have hBq:=zh (hbW.out wq hq)
         clear IN C0 C1 C2 C3 C4 C5 C6 C7 C8 C9 D0 D1 D2 D3 EL EB FA FB hwr
         go_wp2_with fail
         go_ret2
         exact⟨links_none _ hres.out,hBq.out⟩
       ·have hres:=zh (hbad (hno (Or.inl hA)).out).out
        rw[hA] at FA
        replace FA:∀ u:Cls wc,u.w.cell? ⟨W1.heap.size,pn,none⟩=some (.int .i64 1):=fun u=>FA u
        have hsum:∀ b,IntKind.i64.wrap (1+bit b)=1+bit b:=fun b=>by cases b<;>rfl
        have hsum0:∀ b,(0:Int)<1+bit b:=fun b=>by cases b<;>decide
        generalize M.getD (pn+1) false=mb at *
        cases mb
        ·skip
         replace FB:∀ u:Cls wc,u.w.cell? ⟨W1.heap.size,pn+1,none⟩=some (.int .i64 0):=fun u=>FB u
         refine wp_region_cls (by kernel_rfl) (by kernel_rfl) ?_
         repeat (go_big_quiet_step (fail))
         refine wpQuiet_nil ?_
         intro wq hw0
         have hq:Below wc.heap.size wc wq:=(by obtain⟨u,rfl⟩:=hw0;exact u.h)
         clear hw0
         have hBq:=zh (hbW.out wq hq)
         clear IN C0 C1 C2 C3 C4 C5 C6 C7 C8 C9 D0 D1 D2 D3 EL EB FA FB hwr
         go_wp2_with fail
         go_ret2
         exact⟨links_none _ hres.out,hBq.out⟩
        ·skip
         replace FB:∀ u:Cls wc,u.w.cell? ⟨W1.heap.size,pn+1,none⟩=some (.int .i64 1):=fun u=>FB u
         refine wp_region_cls (by kernel_rfl) (by kernel_rfl) ?_
         repeat (go_big_quiet_step (fail))
         refine wpQuiet_nil ?_
         intro wq hw0
         have hq:Below wc.heap.size wc wq:=(by obtain⟨u,rfl⟩:=hw0;exact u.h)
         clear hw0
         have hBq:=zh (hbW.out wq hq)
         clear IN C0 C1 C2 C3 C4 C5 C6 C7 C8 C9 D0 D1 D2 D3 EL EB FA FB hwr
         go_wp2_with fail
         go_ret2
         exact⟨links_none _ hres.out,hBq.out⟩
     ·obtain rfl:j=l.length:=by omega
      have hnx:=zh ((linksFrom_next hkn (hmk.out.symm.trans (mark_end _ _ _))).symm.trans hl.out)
      have hKn:Hid (Kept (fun q=>q<W3.heap.size∧q≠W1.heap.size) W3 wr):=zh (hK6.out.trans (hKM.out.mono fun q hq=>⟨Nat.lt_of_lt_of_le hq.1 hK6.out.size,hq.2⟩))
      go_wp2_with fail
      exact⟨⟨k+1,M,by go_num,by omega,hM,hownM,hKn,hnx⟩,by simp[intOf];omega⟩
  ·obtain rfl:k=2:=by omega
   have hlo:=zh (hl.out.symm.trans (linksFrom_two o T))
   have Bwr:Hid (Below w.heap.size w wr):=zh (B1.out.trans (hbw.out.mono (Nat.le_of_lt hgT.out)))
   have hrow:Hid (Row .i64 wr (.slice (some ⟨W1.heap.size,0,none⟩) o.code.length o.code.length) (T.map bit)):=zh (by
    have hh:=hown.out
    have e:o.code.length=(T.map bit).length:=by rw[List.length_map,hT]
    rw[e] at hh ⊢
    exact row_of_own hh)
   go_wp2_with fail
   go_ret2
   exact⟨links_some hlo.out hrow.out hT,Bwr.out⟩
end Go.Proofs.YtceflhffilldeaaGreat
