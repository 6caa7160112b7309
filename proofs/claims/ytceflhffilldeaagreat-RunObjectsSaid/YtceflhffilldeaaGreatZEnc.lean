/-
  Joined: ZEnc.
-/
import Derived.Test.YtceflhffilldeaaGreatZRider
set_option linter.unusedVariables false
set_option linter.unusedSimpArgs false
set_option maxRecDepth 100000
set_option maxHeartbeats 16000000
namespace Go.Proofs.YtceflhffilldeaaGreat
open Go.RowKit ObjL
namespace ObjL
def er15 (o:Ob):List UInt8:=numB o.places
def er14 (o:Ob):List UInt8:=numB o.calls++er15 o
def er13 (o:Ob):List UInt8:=o.entries.flatMap numB++er14 o
def er12 (o:Ob):List UInt8:=numB o.entries.length++er13 o
def er11 (o:Ob):List UInt8:=o.code.flatMap wordB++er12 o
def er10 (o:Ob):List UInt8:=numB o.code.length++er11 o
def er9 (o:Ob):List UInt8:=o.strings++er10 o
def er8 (o:Ob):List UInt8:=numB o.strings.length++er9 o
def er7 (o:Ob):List UInt8:=numB o.data++er8 o
def er6 (o:Ob):List UInt8:=o.descs.flatMap descB++er7 o
def er5 (o:Ob):List UInt8:=numB o.descs.length++er6 o
def er4 (o:Ob):List UInt8:=o.uses.flatMap useB++er5 o
def er3 (o:Ob):List UInt8:=numB o.uses.length++er4 o
def er2 (o:Ob):List UInt8:=wordB o.key++er3 o
def er1 (o:Ob):List UInt8:=textB o.name++er2 o
theorem flat_len {α:Type} (f:α→List UInt8) (c:Nat):∀ (l:List α),(∀ x∈l,(f x).length≤c)→(l.flatMap f).length≤l.length*c
 | [],_=>by simp
 | x::l,h=>by
  have h1:=h x (by simp)
  have h2:=flat_len f c l (fun y hy=>h y (by simp[hy]))
  simp only[List.flatMap_cons,List.length_append,List.length_cons,Nat.succ_mul]
  omega
theorem numB_len (n:Int):(numB n).length≤6:=(numF_len 5 n).2
theorem textB_len {t:List UInt8} (h:textOk t=true):(textB t).length≤65:=by
 unfold textOk at h
 simp only[Bool.and_eq_true,decide_eq_true_eq] at h
 unfold textB
 rw[List.length_append]
 have:=h.1
 simp only[List.length_singleton];omega
theorem enc_len {o:Ob} (h:WrOk o):(encO o).length≤1000000:=by
 have h1:=textB_len h.name
 have h2:=flat_len useB 69 o.uses (fun u hu=>by
  unfold useB
  rw[List.length_append]
  have:=textB_len (h.use u hu).1
  have:(wordB u.2).length=4:=rfl
  omega)
 have h3:=flat_len descB 72 o.descs (fun d hd=>by
  unfold descB
  rw[List.length_append,List.length_append]
  have e1:=numB_len d.1
  have e2:=numB_len d.2.length
  have e3:=flat_len extB 12 d.2 (fun e he=>by
   unfold extB
   rw[List.length_append]
   have:=numB_len e.1
   have:=numB_len e.2
   omega)
  have:=(h.desc d hd).2.1
  omega)
 have h4:=flat_len wordB 4 o.code (fun x hx=>Nat.le_refl _)
 have h5:=flat_len numB 6 o.entries (fun x hx=>numB_len x)
 have n1:=numB_len o.uses.length
 have n2:=numB_len o.descs.length
 have n3:=numB_len o.data
 have n4:=numB_len o.strings.length
 have n5:=numB_len o.code.length
 have n6:=numB_len o.entries.length
 have n7:=numB_len o.calls
 have n8:=numB_len o.places
 have w1:(wordB o.key).length=4:=rfl
 have t1:(textB head).length=5:=rfl
 have b1:=h.uses
 have b2:=h.descs
 have b3:=h.strings
 have b4:=h.code
 have b5:=h.entries
 have b6:o.uses.length*69≤1104:=by omega
 have b7:o.descs.length*72≤4608:=by omega
 have b8:o.code.length*4≤32768:=by omega
 have b9:o.entries.length*6≤384:=by omega
 have h2:=Nat.le_trans h2 b6
 have h3:=Nat.le_trans h3 b7
 have h4:=Nat.le_trans h4 b8
 have h5:=Nat.le_trans h5 b9
 clear b1 b2 b4 b5 b6 b7 b8 b9
 unfold encO
 simp only[List.length_append]
 generalize (textB head).length=a1 at *
 generalize (textB o.name).length=a2 at *
 generalize (wordB o.key).length=a3 at *
 generalize (numB o.uses.length).length=a4 at *
 generalize (o.uses.flatMap useB).length=a5 at *
 generalize (numB o.descs.length).length=a6 at *
 generalize (o.descs.flatMap descB).length=a7 at *
 generalize (numB o.data).length=a8 at *
 generalize (numB o.strings.length).length=a9 at *
 generalize (numB o.code.length).length=a10 at *
 generalize (o.code.flatMap wordB).length=a11 at *
 generalize (numB o.entries.length).length=a12 at *
 generalize (o.entries.flatMap numB).length=a13 at *
 generalize (numB o.calls).length=a14 at *
 generalize (numB o.places).length=a15 at *
 generalize o.strings.length=a16 at *
 clear h
 omega
theorem len_ok {acc r e:List UInt8} (h:acc++r=e) (he:e.length≤1000000):acc.length≤1000000:=by
 have:e.length=acc.length+r.length:=by rw[← h,List.length_append]
 omega
theorem fits_nat {n m:Nat} (h:n≤m) (hm:m≤1000000):fits (n:Int)=true:=by
 unfold fits
 simp only[Bool.and_eq_true,decide_eq_true_eq]
 omega
theorem word_iff {x:Int} (h:word x=true):0≤x∧x≤4294967295:=by
 unfold word at h
 simp only[Bool.and_eq_true,decide_eq_true_eq] at h
 omega
theorem drop_at {α:Type} {l:List α} {k:Nat} (h:k<l.length):l.drop k=l[k]::l.drop (k+1):=List.drop_eq_getElem_cons h
end ObjL
end Go.Proofs.YtceflhffilldeaaGreat
namespace Go.Proofs.YtceflhffilldeaaGreat
open Go.RowKit ObjL
def encRes (g:Bool) (o:Ob):Value:=
 if g=true then (if 131072<(encO o).length then .tuple #[.string (txt []),.int .i64 2] else .tuple #[.string (txt (encO o)),.int .i64 0]) else .tuple #[.string (txt []),.int .i64 230]
end Go.Proofs.YtceflhffilldeaaGreat
namespace Go.Proofs.YtceflhffilldeaaGreat
open Go.RowKit ObjL
theorem obj_encode (o:Ob) (vU vD vC vE:Value) (w:World) (hp:ObParts w o vU vD vC vE) (g:Bool) (hg:g=true→WrOk o)
  (GOOD:∀ W,ObParts W o vU vD vC vE→Calls Tryz.prog 143 #[.agg (obCells o vU vD vC vE)] W fun e w'=>e=.returned (.bool g)∧Below W.heap.size W w') :
  Calls Tryz.prog 109 #[.agg (obCells o vU vD vC vE)] w fun e w'=>e=.returned (encRes g o)∧Below w.heap.size w w':=by
 have hp':=zh hp
 obtain⟨hU,hD,hC,hE⟩:=hp
 obtain⟨hU1,AU,cU,rfl,-⟩:=hU
 obtain⟨hD1,AD,cD,rfl,-⟩:=hD
 obtain⟨hC1,AC,cC,rfl,-⟩:=hC
 obtain⟨hE1,AE,cE,rfl,-⟩:=hE
 have G1:=zh (GOOD (w.alloc (.cells (obCells o (.slice AU o.uses.length cU) (.slice AD o.descs.length cD) (.slice AC o.code.length cC) (.slice AE o.entries.length cE)) 48)) (hp'.out.below ((Below.refl _ _).alloc (Nat.le_refl _) _)))
 have L1:=zh (Blk.new w 48 (obCells o (.slice AU o.uses.length cU) (.slice AD o.descs.length cD) (.slice AC o.code.length cC) (.slice AE o.entries.length cE)))
 have PA:=zh (hp'.out.below ((Below.refl _ _).alloc (Nat.le_refl _) (.cells (obCells o (.slice AU o.uses.length cU) (.slice AD o.descs.length cD) (.slice AC o.code.length cC) (.slice AE o.entries.length cE)) 48)))
 have BA:=zh ((Below.refl w.heap.size w).alloc (Nat.le_refl _) (.cells (obCells o (.slice AU o.uses.length cU) (.slice AD o.descs.length cD) (.slice AC o.code.length cC) (.slice AE o.entries.length cE)) 48))
 have hi:Hid ((Tryz.prog.info? 48).map (·.size)=some (obCells o (.slice AU o.uses.length cU) (.slice AD o.descs.length cD) (.slice AC o.code.length cC) (.slice AE o.entries.length cE)).size):=zh (by kernel_rfl)
 clear GOOD hp'
 have hgA:w.heap.size<(w.alloc (.cells (obCells o (.slice AU o.uses.length cU) (.slice AD o.descs.length cD) (.slice AC o.code.length cC) (.slice AE o.entries.length cE)) 48)).heap.size:=by simp
 go_enter Tryz.func109,Tryz.ntmps109
 go_wp2_with (refine wpList_load_row rfl 48 (.tmp 1) rfl w.heap.size rfl 48 (obCells o (.slice AU o.uses.length cU) (.slice AD o.descs.length cD) (.slice AC o.code.length cC) (.slice AE o.entries.length cE)) (0,0) _ L1.out Tryz.underlying48 rfl hi.out ?_)
 refine G1.out.mono ?_
 rintro e w1 ⟨rfl,hb1⟩
 have OB:=zh (L1.out.below hb1 hgA)
 have PB:=zh (PA.out.below hb1)
 have BB:=zh (BA.out.trans (hb1.mono (Nat.le_of_lt hgA)))
 have hgO:=Nat.lt_of_lt_of_le hgA hb1.size
 clear G1 hb1 hi L1 PA BA hgA
 generalize w.alloc (.cells (obCells o (.slice AU o.uses.length cU) (.slice AD o.descs.length cD) (.slice AC o.code.length cC) (.slice AE o.entries.length cE)) 48)=wA at *
 cases g
 ·go_wp2_with fail
  go_ret2
  exact⟨rfl,BB.out⟩
 ·have hWO:=hg rfl
  have lenO:=zh (enc_len hWO)
  have hWO':=zh hWO
  have OBf:Hid (∀ W,Below w1.heap.size w1 W→Blk W w.heap.size 48 (obCells o (.slice AU o.uses.length cU) (.slice AD o.descs.length cD) (.slice AC o.code.length cC) (.slice AE o.entries.length cE))):=zh (fun W hb=>OB.out.below hb hgO)
  have PBf:Hid (∀ W,Below w1.heap.size w1 W→ObParts W o (.slice AU o.uses.length cU) (.slice AD o.descs.length cD) (.slice AC o.code.length cC) (.slice AE o.entries.length cE)):=zh (fun W hb=>PB.out.below hb)
  have hBB:w.heap.size≤w1.heap.size:=BB.out.size
  clear hg hWO OB PB
  have WR:=zh (rw_write w1)
  go_wp2_with fail
  refine WR.out.mono ?_
  rintro e W0 ⟨rfl,hW0,hb0⟩
  have hac:Hid ([]++(textB head++er1 o)=encO o):=zh rfl
  have hW:=zh hW0
  have hb:=zh hb0
  clear hW0 hb0 WR
  obtain⟨B,hBe⟩:∃ B,B=w1.heap.size:=⟨_,rfl⟩
  rw[← hBe] at hW hb OBf PBf
  have hB0:=zh hBe.symm
  have hBl:w.heap.size≤B:=by omega
  rw[← hBe]
  clear hBe
  obtain⟨a0,ha0⟩:∃ a:List UInt8,a=[]:=⟨_,rfl⟩
  rw[← ha0] at hW hac
  clear ha0
  generalize hgg:w.heap.size=gO at *
  have hgg:=zh hgg
  have HP:=zh (rw_text B B a0 head false W0 hW.out (by have:=hb.out.size;have:=hB0.out;omega) (by have:=len_ok hac.out lenO.out;omega) (by decide))
  have eH:txt head=⟨#[83,80,79,66]⟩:=rfl
  rw[eH] at HP
  clear eH
  go_wp2_with fail
  refine HP.out.mono ?_
  rintro e W1 ⟨rfl,hW1,hk⟩
  have hbN:=zh (hb.out.trans hk.1)
  obtain⟨a1,ha⟩:∃ a,a=a0++textB head:=⟨_,rfl⟩
  rw[← ha] at hW1
  have hacN:Hid (a1++er1 o=encO o):=zh (by rw[ha,List.append_assoc];exact hac.out)
  have hWN:=zh hW1
  clear HP ha hW1 hk hac hb hW
  have hW:=hWN
  have hac:=hacN
  have hb:=hbN
  clear hWN hacN hbN
  have c0:W1.cell? ⟨gO,0,none⟩=some (.string (txt o.name)):=(OBf.out _ hb.out).cell 0
  have HP:=zh (rw_text B B a1 o.name false W1 hW.out (by have:=hb.out.size;have:=hB0.out;omega) (by have:=len_ok hac.out lenO.out;omega) hWO'.out.name)
  go_wp2_with fail
  refine HP.out.mono ?_
  rintro e W2 ⟨rfl,hW1,hk⟩
  have hbN:=zh (hb.out.trans hk.1)
  obtain⟨a2,ha⟩:∃ a,a=a1++textB o.name:=⟨_,rfl⟩
  rw[← ha] at hW1
  have hacN:Hid (a2++er2 o=encO o):=zh (by rw[ha,List.append_assoc];exact hac.out)
  have hWN:=zh hW1
  clear HP ha hW1 hk hac hb hW c0
  have hW:=hWN
  have hac:=hacN
  have hb:=hbN
  clear hWN hacN hbN
  have c1:W2.cell? ⟨gO,1,none⟩=some (.int .u32 o.key):=(OBf.out _ hb.out).cell 1
  have HP:=zh (rw_word B B a2 o.key false W2 hW.out (by have:=hb.out.size;have:=hB0.out;omega) (by have:=len_ok hac.out lenO.out;omega) (word_iff hWO'.out.key).1 (word_iff hWO'.out.key).2)
  go_wp2_with fail
  refine HP.out.mono ?_
  rintro e W3 ⟨rfl,hW1,hk⟩
  have hbN:=zh (hb.out.trans hk.1)
  obtain⟨a3,ha⟩:∃ a,a=a2++wordB o.key:=⟨_,rfl⟩
  rw[← ha] at hW1
  have hacN:Hid (a3++er3 o=encO o):=zh (by rw[ha,List.append_assoc];exact hac.out)
  have hWN:=zh hW1
  clear HP ha hW1 hk hac hb hW c1
  have hW:=hWN
  have hac:=hacN
  have hb:=hbN
  clear hWN hacN hbN
  have c2:W3.cell? ⟨gO,2,none⟩=some (.slice AU o.uses.length cU):=(OBf.out _ hb.out).cell 2
  have HP:=zh (rw_num B B a3 o.uses.length false W3 hW.out (by have:=hb.out.size;have:=hB0.out;omega) (by have:=len_ok hac.out lenO.out;omega) (fits_nat hWO'.out.uses (by decide)))
  go_wp2_with fail
  refine HP.out.mono ?_
  rintro e W4 ⟨rfl,hW1,hk⟩
  have hbN:=zh (hb.out.trans hk.1)
  obtain⟨a4,ha⟩:∃ a,a=a3++numB o.uses.length:=⟨_,rfl⟩
  rw[← ha] at hW1
  have hacN:Hid (a4++er4 o=encO o):=zh (by rw[ha,List.append_assoc];exact hac.out)
  have hWN:=zh hW1
  clear HP ha hW1 hk hac hb hW c2
  have hW:=hWN
  have hac:=hacN
  have hb:=hbN
  clear hWN hacN hbN
  have c2:W4.cell? ⟨gO,2,none⟩=some (.slice AU o.uses.length cU):=(OBf.out _ hb.out).cell 2
  go_wp2_with fail
  clear c2
  go_loopw [38] (fun i wr=>∃ (k:Nat) (acc:List UInt8),i=.int .i64 k∧k≤o.uses.length∧Hid (WrIs B wr B acc false)∧Hid (acc++((o.uses.drop k).flatMap useB++er5 o)=encO o)∧Hid (Below B w1 wr)) (fun i _=>o.uses.length-(intOf i).toNat)
  case atStart=>exact⟨0,a4,rfl,by omega,hW,zh (by exact hac.out),hb⟩
  case round=>
   clear hW hac hb
   obtain⟨k,acc,rfl,hkk,hW,hac,hb⟩:=hrel
   by_cases hltk:(k:Int)<(o.uses.length:Int)
   ·have hltnk:k<o.uses.length:=by omega
    obtain⟨-,A1,c1,e1,hc⟩:=(PBf.out w1 (Below.refl _ _)).uses
    injection e1 with e1 _ e2
    subst e1 e2
    obtain⟨ad,rfl,had,hx⟩:=hc k hltnk
    obtain⟨y0,q0,z0⟩:=hx 0 (by decide)
    obtain⟨y1,q1,z1⟩:=hx 1 (by decide)
    have z0:=z0.1 rfl
    have z1:=z1.2 rfl
    subst z0 z1
    have XF0:Hid (∀ W,Below B w1 W→W.cell? (ad.add (k*2))=some (.string (txt (o.uses[k]).1))):=zh (fun W h=>(h.cell (p:=ad.add (k*2)) (by rw[block_add];have:=hB0.out;omega)).trans q0)
    have XF1:Hid (∀ W,Below B w1 W→W.cell? ⟨(ad.add (k*2)).block,(ad.add (k*2)).off+1,none⟩=some (.int .u32 (o.uses[k]).2)):=zh (fun W h=>(h.cell (p:=⟨(ad.add (k*2)).block,(ad.add (k*2)).off+1,none⟩) (by show (ad.add (k*2)).block<B;rw[block_add];have:=hB0.out;omega)).trans q1)
    clear hc hx q0 q1 had
    have hu:=zh (hWO'.out.use _ (List.getElem_mem hltnk))
    have hacU:Hid (acc++(textB (o.uses[k]).1++(wordB (o.uses[k]).2++((o.uses.drop (k+1)).flatMap useB++er5 o)))=encO o):=zh (by have:=hac.out;rw[drop_at hltnk,List.flatMap_cons,List.append_assoc] at this;rw[← List.append_assoc (textB _)];exact this)
    clear hac
    have hac:=hacU
    clear hacU
    generalize o.uses[k]=u at *
    obtain⟨un,uk⟩:=u
    dsimp only at XF0 XF1 hac hu
    have c2:wr.cell? ⟨gO,2,none⟩=some (.slice (some ad) o.uses.length cU):=(OBf.out _ hb.out).cell 2
    have x0:=XF0.out wr hb.out
    have x1:=XF1.out wr hb.out
    clear XF0 XF1
    have hXn:=zh (Blk.new wr 54 #[.string (txt un),.int .u32 uk])
    have hWa:=zh (hW.out.below ((Below.refl _ _).alloc (Nat.le_refl _) (.cells #[.string (txt un),.int .u32 uk] 54)))
    have hba:=zh (hb.out.alloc (by have:=hb.out.size;have:=hB0.out;omega) (.cells #[.string (txt un),.int .u32 uk] 54))
    clear hW hb
    have hW:=hWa
    have hb:=hba
    clear hWa hba
    have HP:=zh (rw_text B B acc un false (wr.alloc (.cells #[.string (txt un),.int .u32 uk] 54)) hW.out (by have:=hb.out.size;have:=hB0.out;omega) (by have:=len_ok hac.out lenO.out;omega) hu.out.1)
    go_wp2_with fail
    refine HP.out.mono ?_
    rintro e W5 ⟨rfl,hW1,hk⟩
    have hbN:=zh (hb.out.trans hk.1)
    have hX2:=zh (hk.2 _ _ _ (by decide) (by decide) hXn.out)
    obtain⟨a5,ha⟩:∃ a,a=acc++textB un:=⟨_,rfl⟩
    rw[← ha] at hW1
    have hacN:Hid (a5++(wordB uk++((o.uses.drop (k+1)).flatMap useB++er5 o))=encO o):=zh (by rw[ha,List.append_assoc];exact hac.out)
    have hWN:=zh hW1
    clear HP ha hW1 hk hac hb hW
    have hW:=hWN
    have hac:=hacN
    have hb:=hbN
    clear hWN hacN hbN
    have v1:=hX2.out.cell 1
    simp only[gAr,gC0,gCs] at v1
    clear hXn
    have hXn:=hX2
    clear hX2
    clear c2 x0 x1
    have HP:=zh (rw_word B B a5 uk false W5 hW.out (by have:=hb.out.size;have:=hB0.out;omega) (by have:=len_ok hac.out lenO.out;omega) (word_iff hu.out.2).1 (word_iff hu.out.2).2)
    go_wp2_with fail
    refine HP.out.mono ?_
    rintro e W6 ⟨rfl,hW1,hk⟩
    have hbN:=zh (hb.out.trans hk.1)
    obtain⟨a6,ha⟩:∃ a,a=a5++wordB uk:=⟨_,rfl⟩
    rw[← ha] at hW1
    have hacN:Hid (a6++((o.uses.drop (k+1)).flatMap useB++er5 o)=encO o):=zh (by rw[ha,List.append_assoc];exact hac.out)
    have hWN:=zh hW1
    clear HP ha hW1 hk hac hb hW
    have hW:=hWN
    have hac:=hacN
    have hb:=hbN
    clear hWN hacN hbN
    clear hXn v1
    go_wp2_with fail
    exact⟨⟨k+1,a6,by go_num,by omega,hW,hac,hb⟩,by simp[intOf];omega⟩
   ·obtain rfl:k=o.uses.length:=by omega
    have hac2:Hid (acc++er5 o=encO o):=zh (by have:=hac.out;simpa using this)
    clear hac
    have hac:=hac2
    clear hac2
    have c3:wr.cell? ⟨gO,3,none⟩=some (.slice AD o.descs.length cD):=(OBf.out _ hb.out).cell 3
    have HP:=zh (rw_num B B acc o.descs.length false wr hW.out (by have:=hb.out.size;have:=hB0.out;omega) (by have:=len_ok hac.out lenO.out;omega) (fits_nat hWO'.out.descs (by decide)))
    go_wp2_with fail
    refine HP.out.mono ?_
    rintro e W7 ⟨rfl,hW1,hk⟩
    have hbN:=zh (hb.out.trans hk.1)
    obtain⟨a7,ha⟩:∃ a,a=acc++numB o.descs.length:=⟨_,rfl⟩
    rw[← ha] at hW1
    have hacN:Hid (a7++er6 o=encO o):=zh (by rw[ha,List.append_assoc];exact hac.out)
    have hWN:=zh hW1
    clear HP ha hW1 hk hac hb hW c3
    have hW:=hWN
    have hac:=hacN
    have hb:=hbN
    clear hWN hacN hbN
    have c3:W7.cell? ⟨gO,3,none⟩=some (.slice AD o.descs.length cD):=(OBf.out _ hb.out).cell 3
    go_wp2_with fail
    clear c3
    go_loopw [59] (fun i wr=>∃ (k:Nat) (acc:List UInt8),i=.int .i64 k∧k≤o.descs.length∧Hid (WrIs B wr B acc false)∧Hid (acc++((o.descs.drop k).flatMap descB++er7 o)=encO o)∧Hid (Below B w1 wr)) (fun i _=>o.descs.length-(intOf i).toNat)
    case atStart=>exact⟨0,a7,rfl,by omega,hW,zh (by exact hac.out),hb⟩
    case round=>
     clear hW hac hb
     obtain⟨k,acc,rfl,hkk,hW,hac,hb⟩:=hrel
     by_cases hltk:(k:Int)<(o.descs.length:Int)
     ·have hltnk:k<o.descs.length:=by omega
      obtain⟨-,A1,c1,e1,hc⟩:=(PBf.out w1 (Below.refl _ _)).descs
      injection e1 with e1 _ e2
      subst e1 e2
      obtain⟨ad,rfl,had,hx⟩:=hc k hltnk
      obtain⟨y0,q0,z0⟩:=hx 0 (by decide)
      obtain⟨y1,q1,z1⟩:=hx 1 (by decide)
      have z0:=z0.1 rfl
      have z1:=z1.2 rfl
      subst z0
      have XF0:Hid (∀ W,Below B w1 W→W.cell? (ad.add (k*2))=some (.int .i64 (o.descs[k]).1)):=zh (fun W h=>(h.cell (p:=ad.add (k*2)) (by rw[block_add];have:=hB0.out;omega)).trans q0)
      have XF1:Hid (∀ W,Below B w1 W→W.cell? ⟨(ad.add (k*2)).block,(ad.add (k*2)).off+1,none⟩=some (y1)):=zh (fun W h=>(h.cell (p:=⟨(ad.add (k*2)).block,(ad.add (k*2)).off+1,none⟩) (by show (ad.add (k*2)).block<B;rw[block_add];have:=hB0.out;omega)).trans q1)
      clear hc hx q0 q1 had
      have ERf:Hid (∀ W,Below B w1 W→ERow W y1 (o.descs[k]).2):=zh (fun W h=>ERow.below z1 (by rw[hB0.out];exact h))
      obtain⟨-,A2,k2,rfl,-⟩:=z1
      have hd:=zh (hWO'.out.desc _ (List.getElem_mem hltnk))
      have hacU:Hid (acc++(numB (o.descs[k]).1++(numB (o.descs[k]).2.length++((o.descs[k]).2.flatMap extB++((o.descs.drop (k+1)).flatMap descB++er7 o))))=encO o):=zh (by have:=hac.out;rw[drop_at hltnk,List.flatMap_cons,show descB (o.descs[k])=numB (o.descs[k]).1++(numB (o.descs[k]).2.length++(o.descs[k]).2.flatMap extB) from rfl] at this;simp only[List.append_assoc] at this;exact this)
      clear hac
      have hac:=hacU
      clear hacU
      generalize o.descs[k]=d at *
      obtain⟨dz,de⟩:=d
      dsimp only at XF0 XF1 hac hd ERf
      have hde5:de.length≤5:=hd.out.2.1
      have c3:wr.cell? ⟨gO,3,none⟩=some (.slice (some ad) o.descs.length cD):=(OBf.out _ hb.out).cell 3
      have x0:=XF0.out wr hb.out
      have x1:=XF1.out wr hb.out
      clear XF0
      have hXn:=zh (Blk.new wr 84 #[.int .i64 dz,.slice A2 de.length k2])
      have hWa:=zh (hW.out.below ((Below.refl _ _).alloc (Nat.le_refl _) (.cells #[.int .i64 dz,.slice A2 de.length k2] 84)))
      have hba:=zh (hb.out.alloc (by have:=hb.out.size;have:=hB0.out;omega) (.cells #[.int .i64 dz,.slice A2 de.length k2] 84))
      clear hW hb
      have hW:=hWa
      have hb:=hba
      clear hWa hba
      have HP:=zh (rw_num B B acc dz false (wr.alloc (.cells #[.int .i64 dz,.slice A2 de.length k2] 84)) hW.out (by have:=hb.out.size;have:=hB0.out;omega) (by have:=len_ok hac.out lenO.out;omega) hd.out.1)
      go_wp2_with fail
      refine HP.out.mono ?_
      rintro e W8 ⟨rfl,hW1,hk⟩
      have hbN:=zh (hb.out.trans hk.1)
      have hX2:=zh (hk.2 _ _ _ (by decide) (by decide) hXn.out)
      obtain⟨a8,ha⟩:∃ a,a=acc++numB dz:=⟨_,rfl⟩
      rw[← ha] at hW1
      have hacN:Hid (a8++(numB de.length++(de.flatMap extB++((o.descs.drop (k+1)).flatMap descB++er7 o)))=encO o):=zh (by rw[ha,List.append_assoc];exact hac.out)
      have hWN:=zh hW1
      clear HP ha hW1 hk hac hb hW
      have hW:=hWN
      have hac:=hacN
      have hb:=hbN
      clear hWN hacN hbN
      have v1:=hX2.out.cell 1
      simp only[gAr,gC0,gCs] at v1
      clear hXn
      have hXn:=hX2
      clear hX2
      clear c3 x0 x1
      have HP:=zh (rw_num B B a8 de.length false W8 hW.out (by have:=hb.out.size;have:=hB0.out;omega) (by have:=len_ok hac.out lenO.out;omega) (fits_nat hd.out.2.1 (by decide)))
      go_wp2_with fail
      refine HP.out.mono ?_
      rintro e W9 ⟨rfl,hW1,hk⟩
      have hbN:=zh (hb.out.trans hk.1)
      have hX2:=zh (hk.2 _ _ _ (by decide) (by decide) hXn.out)
      obtain⟨a9,ha⟩:∃ a,a=a8++numB de.length:=⟨_,rfl⟩
      rw[← ha] at hW1
      have hacN:Hid (a9++(de.flatMap extB++((o.descs.drop (k+1)).flatMap descB++er7 o))=encO o):=zh (by rw[ha,List.append_assoc];exact hac.out)
      have hWN:=zh hW1
      clear HP ha hW1 hk hac hb hW
      have hW:=hWN
      have hac:=hacN
      have hb:=hbN
      clear hWN hacN hbN
      clear v1
      have v1:=hX2.out.cell 1
      simp only[gAr,gC0,gCs] at v1
      clear hXn
      have hXn:=hX2
      clear hX2
      go_wp2_with fail
      go_loopw [75] (fun i wr=>∃ (j:Nat) (acd:List UInt8),i=.int .i64 j∧j≤de.length∧Hid (WrIs B wr B acd false)∧Hid (acd++((de.drop j).flatMap extB++((o.descs.drop (k+1)).flatMap descB++er7 o))=encO o)∧Hid (Below B w1 wr)) (fun i _=>de.length-(intOf i).toNat)
      case atStart=>exact⟨0,a9,rfl,by omega,hW,zh (by exact hac.out),hb⟩
      case round=>
       clear hW hac hb
       obtain⟨j,acd,rfl,hkj,hW,hac,hb⟩:=hrel
       by_cases hltj:(j:Int)<(de.length:Int)
       ·have hltnj:j<de.length:=by omega
        obtain⟨-,A3,k3,e3,hc⟩:=ERf.out w1 (Below.refl _ _)
        injection e3 with e3 _ e4
        subst e3 e4
        obtain⟨ae,rfl,hae,hx⟩:=hc j hltnj
        obtain⟨y0,q0,z0⟩:=hx 0 (by decide)
        obtain⟨y1,q1,z1⟩:=hx 1 (by decide)
        have z0:=z0.1 rfl
        have z1:=z1.2 rfl
        subst z0 z1
        have YF0:Hid (∀ W,Below B w1 W→W.cell? (ae.add (j*2))=some (.int .i64 (de[j]).1)):=zh (fun W h=>(h.cell (p:=ae.add (j*2)) (by rw[block_add];have:=hB0.out;omega)).trans q0)
        have YF1:Hid (∀ W,Below B w1 W→W.cell? ⟨(ae.add (j*2)).block,(ae.add (j*2)).off+1,none⟩=some (.int .i64 (de[j]).2)):=zh (fun W h=>(h.cell (p:=⟨(ae.add (j*2)).block,(ae.add (j*2)).off+1,none⟩) (by show (ae.add (j*2)).block<B;rw[block_add];have:=hB0.out;omega)).trans q1)
        clear hc hx q0 q1 hae
        have hx:=zh (hd.out.2.2 _ (List.getElem_mem hltnj))
        have hacV:Hid (acd++(numB (de[j]).1++(numB (de[j]).2++((de.drop (j+1)).flatMap extB++((o.descs.drop (k+1)).flatMap descB++er7 o))))=encO o):=zh (by have:=hac.out;rw[drop_at hltnj,List.flatMap_cons,List.append_assoc] at this;rw[← List.append_assoc (numB (de[j]).1)];exact this)
        clear hac
        have hac:=hacV
        clear hacV
        generalize de[j]=x at *
        obtain⟨xm,xn⟩:=x
        dsimp only at YF0 YF1 hac hx
        have x0:=YF0.out wr hb.out
        have x1:=YF1.out wr hb.out
        clear YF0 YF1
        have hXn:=zh (Blk.new wr 93 #[.int .i64 xm,.int .i64 xn])
        have hWa:=zh (hW.out.below ((Below.refl _ _).alloc (Nat.le_refl _) (.cells #[.int .i64 xm,.int .i64 xn] 93)))
        have hba:=zh (hb.out.alloc (by have:=hb.out.size;have:=hB0.out;omega) (.cells #[.int .i64 xm,.int .i64 xn] 93))
        clear hW hb
        have hW:=hWa
        have hb:=hba
        clear hWa hba
        have HP:=zh (rw_num B B acd xm false (wr.alloc (.cells #[.int .i64 xm,.int .i64 xn] 93)) hW.out (by have:=hb.out.size;have:=hB0.out;omega) (by have:=len_ok hac.out lenO.out;omega) hx.out.1)
        go_wp2_with fail
        refine HP.out.mono ?_
        rintro e W10 ⟨rfl,hW1,hk⟩
        have hbN:=zh (hb.out.trans hk.1)
        have hX2:=zh (hk.2 _ _ _ (by decide) (by decide) hXn.out)
        obtain⟨a10,ha⟩:∃ a,a=acd++numB xm:=⟨_,rfl⟩
        rw[← ha] at hW1
        have hacN:Hid (a10++(numB xn++((de.drop (j+1)).flatMap extB++((o.descs.drop (k+1)).flatMap descB++er7 o)))=encO o):=zh (by rw[ha,List.append_assoc];exact hac.out)
        have hWN:=zh hW1
        clear HP ha hW1 hk hac hb hW
        have hW:=hWN
        have hac:=hacN
        have hb:=hbN
        clear hWN hacN hbN
        have v1:=hX2.out.cell 1
        simp only[gAr,gC0,gCs] at v1
        clear hXn
        have hXn:=hX2
        clear hX2
        clear x0 x1
        have HP:=zh (rw_num B B a10 xn false W10 hW.out (by have:=hb.out.size;have:=hB0.out;omega) (by have:=len_ok hac.out lenO.out;omega) hx.out.2)
        go_wp2_with fail
        refine HP.out.mono ?_
        rintro e W11 ⟨rfl,hW1,hk⟩
        have hbN:=zh (hb.out.trans hk.1)
        obtain⟨a11,ha⟩:∃ a,a=a10++numB xn:=⟨_,rfl⟩
        rw[← ha] at hW1
        have hacN:Hid (a11++((de.drop (j+1)).flatMap extB++((o.descs.drop (k+1)).flatMap descB++er7 o))=encO o):=zh (by rw[ha,List.append_assoc];exact hac.out)
        have hWN:=zh hW1
        clear HP ha hW1 hk hac hb hW
        have hW:=hWN
        have hac:=hacN
        have hb:=hbN
        clear hWN hacN hbN
        clear hXn v1
        go_wp2_with fail
        exact⟨⟨j+1,a11,by go_num,by omega,hW,hac,hb⟩,by simp[intOf];omega⟩
       ·obtain rfl:j=de.length:=by omega
        have hac2:Hid (acd++((o.descs.drop (k+1)).flatMap descB++er7 o)=encO o):=zh (by have:=hac.out;simpa using this)
        clear hac
        have hac:=hac2
        clear hac2
        go_wp2_with fail
        exact⟨⟨k+1,acd,by go_num,by omega,hW,hac,hb⟩,by simp[intOf];omega⟩
     ·obtain rfl:k=o.descs.length:=by omega
      have hac2:Hid (acc++er7 o=encO o):=zh (by have:=hac.out;simpa using this)
      clear hac
      have hac:=hac2
      clear hac2
      have c4:wr.cell? ⟨gO,4,none⟩=some (.int .i64 o.data):=(OBf.out _ hb.out).cell 4
      have HP:=zh (rw_num B B acc o.data false wr hW.out (by have:=hb.out.size;have:=hB0.out;omega) (by have:=len_ok hac.out lenO.out;omega) hWO'.out.data)
      go_wp2_with fail
      refine HP.out.mono ?_
      rintro e W12 ⟨rfl,hW1,hk⟩
      have hbN:=zh (hb.out.trans hk.1)
      obtain⟨a12,ha⟩:∃ a,a=acc++numB o.data:=⟨_,rfl⟩
      rw[← ha] at hW1
      have hacN:Hid (a12++er8 o=encO o):=zh (by rw[ha,List.append_assoc];exact hac.out)
      have hWN:=zh hW1
      clear HP ha hW1 hk hac hb hW c4
      have hW:=hWN
      have hac:=hacN
      have hb:=hbN
      clear hWN hacN hbN
      have eS:=txt_size o.strings
      have hss:o.strings.length≤32768:=hWO'.out.strings
      have c5:W12.cell? ⟨gO,5,none⟩=some (.string (txt o.strings)):=(OBf.out _ hb.out).cell 5
      have HP:=zh (rw_num B B a12 o.strings.length false W12 hW.out (by have:=hb.out.size;have:=hB0.out;omega) (by have:=len_ok hac.out lenO.out;omega) (fits_nat hWO'.out.strings (by decide)))
      go_wp2_with fail
      refine HP.out.mono ?_
      rintro e W13 ⟨rfl,hW1,hk⟩
      have hbN:=zh (hb.out.trans hk.1)
      obtain⟨a13,ha⟩:∃ a,a=a12++numB o.strings.length:=⟨_,rfl⟩
      rw[← ha] at hW1
      have hacN:Hid (a13++er9 o=encO o):=zh (by rw[ha,List.append_assoc];exact hac.out)
      have hWN:=zh hW1
      clear HP ha hW1 hk hac hb hW c5
      have hW:=hWN
      have hac:=hacN
      have hb:=hbN
      clear hWN hacN hbN
      have c5:W13.cell? ⟨gO,5,none⟩=some (.string (txt o.strings)):=(OBf.out _ hb.out).cell 5
      go_wp2_with fail
      clear c5
      go_loopw [101] (fun i wr=>∃ (k:Nat) (acc:List UInt8),i=.int .i64 k∧k≤o.strings.length∧Hid (WrIs B wr B acc false)∧Hid (acc++(o.strings.drop k++er10 o)=encO o)∧Hid (Below B w1 wr)) (fun i _=>o.strings.length-(intOf i).toNat)
      case atStart=>exact⟨0,a13,rfl,by omega,hW,zh (by exact hac.out),hb⟩
      case round=>
       clear hW hac hb
       obtain⟨k,acc,rfl,hkk,hW,hac,hb⟩:=hrel
       by_cases hltk:(k:Int)<(o.strings.length:Int)
       ·have hltnk:k<o.strings.length:=by omega
        have c5:wr.cell? ⟨gO,5,none⟩=some (.string (txt o.strings)):=(OBf.out _ hb.out).cell 5
        have hks:k<(txt o.strings).size:=by rw[eS];exact hltnk
        have hbt:=((txt o.strings)[k]'hks).toNat_lt
        have ebt:[byte ((((txt o.strings)[k]'hks).toNat:Nat):Int)]=[o.strings[k]]:=by
         congr 1
         refine(byte_inj (c:=(txt o.strings)[k]'hks) (by have:=hbt;omega)).trans ?_
         first | rfl | (show ((txt o.strings).data[k]'_)=_;first | rfl | (simp[txt];done) | (simp[txt];rfl))
        have hacU:Hid (acc++([byte ((((txt o.strings)[k]'hks).toNat:Nat):Int)]++(o.strings.drop (k+1)++er10 o))=encO o):=zh (by have:=hac.out;rw[drop_at hltnk] at this;rw[ebt];exact this)
        clear hac ebt
        have hac:=hacU
        clear hacU
        have HP:=zh (rw_byte B B acc ((((txt o.strings)[k]'hks).toNat:Nat):Int) false wr hW.out (by have:=hb.out.size;have:=hB0.out;omega) (by have:=len_ok hac.out lenO.out;omega) (by omega) (by omega))
        go_wp2_with fail
        refine HP.out.mono ?_
        rintro e W14 ⟨rfl,hW1,hk⟩
        have hbN:=zh (hb.out.trans hk.1)
        obtain⟨a14,ha⟩:∃ a,a=acc++[byte ((((txt o.strings)[k]'hks).toNat:Nat):Int)]:=⟨_,rfl⟩
        rw[← ha] at hW1
        have hacN:Hid (a14++(o.strings.drop (k+1)++er10 o)=encO o):=zh (by rw[ha,List.append_assoc];exact hac.out)
        have hWN:=zh hW1
        clear HP ha hW1 hk hac hb hW
        have hW:=hWN
        have hac:=hacN
        have hb:=hbN
        clear hWN hacN hbN
        clear c5
        go_wp2_with fail
        exact⟨⟨k+1,a14,by go_num,by omega,hW,hac,hb⟩,by simp[intOf];omega⟩
       ·obtain rfl:k=o.strings.length:=by omega
        have hac2:Hid (acc++er10 o=encO o):=zh (by have:=hac.out;simpa using this)
        clear hac
        have hac:=hac2
        clear hac2
        have c6:wr.cell? ⟨gO,6,none⟩=some (.slice AC o.code.length cC):=(OBf.out _ hb.out).cell 6
        have HP:=zh (rw_num B B acc o.code.length false wr hW.out (by have:=hb.out.size;have:=hB0.out;omega) (by have:=len_ok hac.out lenO.out;omega) (fits_nat hWO'.out.code (by decide)))
        go_wp2_with fail
        refine HP.out.mono ?_
        rintro e W15 ⟨rfl,hW1,hk⟩
        have hbN:=zh (hb.out.trans hk.1)
        obtain⟨a15,ha⟩:∃ a,a=acc++numB o.code.length:=⟨_,rfl⟩
        rw[← ha] at hW1
        have hacN:Hid (a15++er11 o=encO o):=zh (by rw[ha,List.append_assoc];exact hac.out)
        have hWN:=zh hW1
        clear HP ha hW1 hk hac hb hW c6
        have hW:=hWN
        have hac:=hacN
        have hb:=hbN
        clear hWN hacN hbN
        have c6:W15.cell? ⟨gO,6,none⟩=some (.slice AC o.code.length cC):=(OBf.out _ hb.out).cell 6
        go_wp2_with fail
        clear c6
        go_loopw [120] (fun i wr=>∃ (k:Nat) (acc:List UInt8),i=.int .i64 k∧k≤o.code.length∧Hid (WrIs B wr B acc false)∧Hid (acc++((o.code.drop k).flatMap wordB++er12 o)=encO o)∧Hid (Below B w1 wr)) (fun i _=>o.code.length-(intOf i).toNat)
        case atStart=>exact⟨0,a15,rfl,by omega,hW,zh (by exact hac.out),hb⟩
        case round=>
         clear hW hac hb
         obtain⟨k,acc,rfl,hkk,hW,hac,hb⟩:=hrel
         by_cases hltk:(k:Int)<(o.code.length:Int)
         ·have hltnk:k<o.code.length:=by omega
          obtain⟨-,A1,c1,e1,hc⟩:=(PBf.out w1 (Below.refl _ _)).code
          injection e1 with e1 _ e2
          subst e1 e2
          obtain⟨ad,rfl,had,q0⟩:=hc k hltnk
          have hgd:o.code.getD k 0=o.code[k]:=by simp[List.getD,hltnk]
          rw[hgd] at q0
          have XF0:Hid (∀ W,Below B w1 W→W.cell? (ad.add k)=some (.int .u32 (o.code[k]))):=zh (fun W h=>(h.cell (p:=ad.add k) (by rw[block_add];have:=hB0.out;omega)).trans q0)
          have hu:=zh (hWO'.out.words _ (List.getElem_mem hltnk))
          have hacU:Hid (acc++(wordB (o.code[k])++((o.code.drop (k+1)).flatMap wordB++er12 o))=encO o):=zh (by have:=hac.out;rw[drop_at hltnk,List.flatMap_cons,List.append_assoc] at this;exact this)
          clear hac hc hgd q0 had
          have hac:=hacU
          clear hacU
          generalize o.code[k]=x at *
          have c6:wr.cell? ⟨gO,6,none⟩=some (.slice (some ad) o.code.length cC):=(OBf.out _ hb.out).cell 6
          have x0:=XF0.out wr hb.out
          clear XF0
          have HP:=zh (rw_word B B acc x false wr hW.out (by have:=hb.out.size;have:=hB0.out;omega) (by have:=len_ok hac.out lenO.out;omega) (word_iff hu.out).1 (word_iff hu.out).2)
          go_wp2_with fail
          refine HP.out.mono ?_
          rintro e W16 ⟨rfl,hW1,hk⟩
          have hbN:=zh (hb.out.trans hk.1)
          obtain⟨a16,ha⟩:∃ a,a=acc++wordB x:=⟨_,rfl⟩
          rw[← ha] at hW1
          have hacN:Hid (a16++((o.code.drop (k+1)).flatMap wordB++er12 o)=encO o):=zh (by rw[ha,List.append_assoc];exact hac.out)
          have hWN:=zh hW1
          clear HP ha hW1 hk hac hb hW
          have hW:=hWN
          have hac:=hacN
          have hb:=hbN
          clear hWN hacN hbN
          clear c6 x0
          go_wp2_with fail
          exact⟨⟨k+1,a16,by go_num,by omega,hW,hac,hb⟩,by simp[intOf];omega⟩
         ·obtain rfl:k=o.code.length:=by omega
          have hac2:Hid (acc++er12 o=encO o):=zh (by have:=hac.out;simpa using this)
          clear hac
          have hac:=hac2
          clear hac2
          have c7:wr.cell? ⟨gO,7,none⟩=some (.slice AE o.entries.length cE):=(OBf.out _ hb.out).cell 7
          have HP:=zh (rw_num B B acc o.entries.length false wr hW.out (by have:=hb.out.size;have:=hB0.out;omega) (by have:=len_ok hac.out lenO.out;omega) (fits_nat hWO'.out.entries (by decide)))
          go_wp2_with fail
          refine HP.out.mono ?_
          rintro e W17 ⟨rfl,hW1,hk⟩
          have hbN:=zh (hb.out.trans hk.1)
          obtain⟨a17,ha⟩:∃ a,a=acc++numB o.entries.length:=⟨_,rfl⟩
          rw[← ha] at hW1
          have hacN:Hid (a17++er13 o=encO o):=zh (by rw[ha,List.append_assoc];exact hac.out)
          have hWN:=zh hW1
          clear HP ha hW1 hk hac hb hW c7
          have hW:=hWN
          have hac:=hacN
          have hb:=hbN
          clear hWN hacN hbN
          have c7:W17.cell? ⟨gO,7,none⟩=some (.slice AE o.entries.length cE):=(OBf.out _ hb.out).cell 7
          go_wp2_with fail
          clear c7
          go_loopw [136] (fun i wr=>∃ (k:Nat) (acc:List UInt8),i=.int .i64 k∧k≤o.entries.length∧Hid (WrIs B wr B acc false)∧Hid (acc++((o.entries.drop k).flatMap numB++er14 o)=encO o)∧Hid (Below B w1 wr)) (fun i _=>o.entries.length-(intOf i).toNat)
          case atStart=>exact⟨0,a17,rfl,by omega,hW,zh (by exact hac.out),hb⟩
          case round=>
           clear hW hac hb
           obtain⟨k,acc,rfl,hkk,hW,hac,hb⟩:=hrel
           by_cases hltk:(k:Int)<(o.entries.length:Int)
           ·have hltnk:k<o.entries.length:=by omega
            obtain⟨-,A1,c1,e1,hc⟩:=(PBf.out w1 (Below.refl _ _)).entries
            injection e1 with e1 _ e2
            subst e1 e2
            obtain⟨ad,rfl,had,q0⟩:=hc k hltnk
            have hgd:o.entries.getD k 0=o.entries[k]:=by simp[List.getD,hltnk]
            rw[hgd] at q0
            have XF0:Hid (∀ W,Below B w1 W→W.cell? (ad.add k)=some (.int .i64 (o.entries[k]))):=zh (fun W h=>(h.cell (p:=ad.add k) (by rw[block_add];have:=hB0.out;omega)).trans q0)
            have hu:=zh (hWO'.out.entry _ (List.getElem_mem hltnk))
            have hacU:Hid (acc++(numB (o.entries[k])++((o.entries.drop (k+1)).flatMap numB++er14 o))=encO o):=zh (by have:=hac.out;rw[drop_at hltnk,List.flatMap_cons,List.append_assoc] at this;exact this)
            clear hac hc hgd q0 had
            have hac:=hacU
            clear hacU
            generalize o.entries[k]=x at *
            have c7:wr.cell? ⟨gO,7,none⟩=some (.slice (some ad) o.entries.length cE):=(OBf.out _ hb.out).cell 7
            have x0:=XF0.out wr hb.out
            clear XF0
            have HP:=zh (rw_num B B acc x false wr hW.out (by have:=hb.out.size;have:=hB0.out;omega) (by have:=len_ok hac.out lenO.out;omega) hu.out)
            go_wp2_with fail
            refine HP.out.mono ?_
            rintro e W18 ⟨rfl,hW1,hk⟩
            have hbN:=zh (hb.out.trans hk.1)
            obtain⟨a18,ha⟩:∃ a,a=acc++numB x:=⟨_,rfl⟩
            rw[← ha] at hW1
            have hacN:Hid (a18++((o.entries.drop (k+1)).flatMap numB++er14 o)=encO o):=zh (by rw[ha,List.append_assoc];exact hac.out)
            have hWN:=zh hW1
            clear HP ha hW1 hk hac hb hW
            have hW:=hWN
            have hac:=hacN
            have hb:=hbN
            clear hWN hacN hbN
            clear c7 x0
            go_wp2_with fail
            exact⟨⟨k+1,a18,by go_num,by omega,hW,hac,hb⟩,by simp[intOf];omega⟩
           ·obtain rfl:k=o.entries.length:=by omega
            have hac2:Hid (acc++er14 o=encO o):=zh (by have:=hac.out;simpa using this)
            clear hac
            have hac:=hac2
            clear hac2
            have c8:wr.cell? ⟨gO,8,none⟩=some (.int .i64 o.calls):=(OBf.out _ hb.out).cell 8
            have HP:=zh (rw_num B B acc o.calls false wr hW.out (by have:=hb.out.size;have:=hB0.out;omega) (by have:=len_ok hac.out lenO.out;omega) hWO'.out.calls)
            go_wp2_with fail
            refine HP.out.mono ?_
            rintro e W19 ⟨rfl,hW1,hk⟩
            have hbN:=zh (hb.out.trans hk.1)
            obtain⟨a19,ha⟩:∃ a,a=acc++numB o.calls:=⟨_,rfl⟩
            rw[← ha] at hW1
            have hacN:Hid (a19++er15 o=encO o):=zh (by rw[ha,List.append_assoc];exact hac.out)
            have hWN:=zh hW1
            clear HP ha hW1 hk hac hb hW c8
            have hW:=hWN
            have hac:=hacN
            have hb:=hbN
            clear hWN hacN hbN
            have hacE:Hid (a19++(numB o.places++[])=encO o):=zh (by rw[List.append_nil];exact hac.out)
            clear hac
            have hac:=hacE
            clear hacE
            have c9:W19.cell? ⟨gO,9,none⟩=some (.int .i64 o.places):=(OBf.out _ hb.out).cell 9
            have HP:=zh (rw_num B B a19 o.places false W19 hW.out (by have:=hb.out.size;have:=hB0.out;omega) (by have:=len_ok hac.out lenO.out;omega) hWO'.out.places)
            go_wp2_with fail
            refine HP.out.mono ?_
            rintro e W20 ⟨rfl,hW1,hk⟩
            have hbN:=zh (hb.out.trans hk.1)
            obtain⟨a20,ha⟩:∃ a,a=a19++numB o.places:=⟨_,rfl⟩
            rw[← ha] at hW1
            have hacN:Hid (a20++[]=encO o):=zh (by rw[ha,List.append_assoc];exact hac.out)
            have hWN:=zh hW1
            clear HP ha hW1 hk hac hb hW c9
            have hW:=hWN
            have hac:=hacN
            have hb:=hbN
            clear hWN hacN hbN
            obtain rfl:a20=encO o:=by have:=hac.out;rwa [List.append_nil] at this
            have HP:=zh (rw_bytes B B (encO o) _ hW.out)
            clear hac hW
            have hres:Hid ((if 131072<(encO o).length then Value.tuple #[.string (txt []),.int .i64 2] else .tuple #[.string (txt (encO o)),.int .i64 0])=encRes true o):=zh rfl
            by_cases hlong:131072<(encO o).length
            ·rw[if_pos hlong] at HP hres
             clear hlong
             go_wp2_with fail
             refine HP.out.mono ?_
             rintro e w9 ⟨rfl,rfl⟩
             go_wp2_with fail
             go_ret2
             rw[← hres.out]
             exact⟨rfl,by rw[hgg.out];exact BB.out.trans (hb.out.mono hBl)⟩
            ·rw[if_neg hlong] at HP hres
             clear hlong
             generalize txt (encO o)=tE at *
             go_wp2_with fail
             refine HP.out.mono ?_
             rintro e w9 ⟨rfl,rfl⟩
             go_wp2_with fail
             go_ret2
             rw[← hres.out]
             exact⟨rfl,by rw[hgg.out];exact BB.out.trans (hb.out.mono hBl)⟩
end Go.Proofs.YtceflhffilldeaaGreat
