/-
  Joined: ZDecP.
-/
import Derived.Test.YtceflhffilldeaaGreatZTkD
import Derived.Test.YtceflhffilldeaaGreatZProGood
import Derived.Test.YtceflhffilldeaaGreatZEnc
import Derived.Test.YtceflhffilldeaaGreatZStore
set_option linter.unusedVariables false
set_option linter.unusedSimpArgs false
set_option maxRecDepth 100000
set_option maxHeartbeats 16000000
namespace Go.Proofs.YtceflhffilldeaaGreat
open Go.RowKit ObjL
def zeroOb:Ob:=⟨[],0,[],[],0,[],[],[],0,0⟩
def nilS:Value:=.slice none 0 0
def DecEnd2 (s:List UInt8) (e:Ending) (w:World):Prop:=
 (∃ o vU vD vC vE B dv,decO s=some o∧ObFine o∧e=.returned (.tuple #[.agg (obCells o vU vD vC vE),.int .i64 0])∧ObParts w o vU vD vC vE∧TkRows B w o.uses dv o.code o.entries vU vD vC vE∧o.descs=dv.map (·.1))∨(decO s=none∧e=.returned (.tuple #[.agg (obCells zeroOb nilS nilS nilS nilS),.int .i64 230]))
theorem rd_read (s:List UInt8) (w:World):Calls Tryz.prog 101 #[.string (txt s)] w fun e w'=>e=.returned (.pointer (some ⟨w.heap.size,0,none⟩))∧w'=w.alloc (.cells #[.string (txt s),.int .i64 0,.bool false] rdT):=by
 go_enter Tryz.func101,Tryz.ntmps101
 go_wp2_with fail
 go_ret
 exact⟨rfl,rfl⟩
theorem tk_lt {B tk p:Nat} {s:List UInt8} {w:World} {o:Ob} {dv:List DV} {st:Lft} (h:TkAt B tk p s w o dv st):p<w.heap.size:=h.rdis.lt
theorem KeepB.setRow_ {bad:TypeId→Bool} {a w:World} (h:KeepB bad a w) {g:Nat} {t:TypeId} {cs:Array Value} (hb:Blk w g t cs) (ht:bad t=true) (c:Array Value):KeepB bad a (w.setRow g c):=
 h.trans ⟨rfl,rfl,rfl,by simp[World.setRow],fun k cs' t' fr h1 h2=>(setRow_other w g k c (fun e=>by
  subst e
  unfold Blk at hb
  rw[hb] at h1
  injection h1 with h1
  injection h1 with _ h1 _
  subst h1
  rw[ht] at h2
  cases h2)).trans h1⟩
theorem encRes_is (g:Bool) (o:Ob):∃ bs er,encRes g o=.tuple #[.string (txt bs),.int .i64 er]∧(er=0↔g=true∧(encO o).length≤131072)∧(er=0→bs=encO o):=by
 unfold encRes
 cases g
 ·exact⟨[],230,rfl,by simp,by simp⟩
 ·by_cases h:131072<(encO o).length
  ·refine⟨[],2,by simp[h],?_,by simp⟩
   simp;omega
  ·refine⟨encO o,0,by simp[h],?_,by simp⟩
   simp;omega
theorem head_eq (t:List UInt8):((txt t).toList==[83,80,79,66])=decide (t=head):=by
 rw[ByteArray.toList_eq,txt_data]
 by_cases h:t=head
 ·rw[h];decide
 ·rw[decide_eq_false h,beq_eq_false_iff_ne];exact h
theorem str_eq (a b:List UInt8):((txt a).toList==(txt b).toList)=decide (a=b):=by
 rw[ByteArray.toList_eq,ByteArray.toList_eq,txt_data,txt_data]
 by_cases h:a=b
 ·rw[h];simp
 ·rw[decide_eq_false h,beq_eq_false_iff_ne];exact h
theorem obj_decode2 (s:List UInt8) (w:World) (hs:s.length≤1000000) :
  Calls Tryz.prog 65 #[.string (txt s)] w fun e w'=>DecEnd2 s e w'∧Below w.heap.size w w':=by
 have ZB:=zh (Blk.new w 48 #[.string ⟨#[]⟩,.int .u32 0,.slice none 0 0,.slice none 0 0,.int .i64 0,.string ⟨#[]⟩,.slice none 0 0,.slice none 0 0,.int .i64 0,.int .i64 0])
 have BZ:=zh ((Below.refl w.heap.size w).alloc (Nat.le_refl _) (.cells #[.string ⟨#[]⟩,.int .u32 0,.slice none 0 0,.slice none 0 0,.int .i64 0,.string ⟨#[]⟩,.slice none 0 0,.slice none 0 0,.int .i64 0,.int .i64 0] 48))
 have hz:w.heap.size<(w.alloc (.cells #[.string ⟨#[]⟩,.int .u32 0,.slice none 0 0,.slice none 0 0,.int .i64 0,.string ⟨#[]⟩,.slice none 0 0,.slice none 0 0,.int .i64 0,.int .i64 0] 48)).heap.size:=by simp
 have hzz:=zh hz
 clear hz
 have hss:=zh hs
 go_enter Tryz.func65,Tryz.ntmps65
 go_upto_region 1 with fail
 generalize hw0:w.alloc (.cells #[.string ⟨#[]⟩,.int .u32 0,.slice none 0 0,.slice none 0 0,.int .i64 0,.string ⟨#[]⟩,.slice none 0 0,.slice none 0 0,.int .i64 0,.int .i64 0] 48)=W0 at *
 clear hw0
 go_wp2_with fail
 refine(rd_read s W0).mono ?_
 rintro e w1 ⟨rfl,hw1⟩
 obtain⟨B,hBe⟩:∃ B,B=W0.heap.size:=⟨_,rfl⟩
 have hA0:TkAt B (B+1) B s ((W0.alloc (.cells #[.string (txt s),.int .i64 0,.bool false] rdT)).alloc (.cells (tkCells B [] 0 (.slice none 0 0) (.slice none 0 0) 0 [] (.slice none 0 0) (.slice none 0 0) 0 0) 193)) zeroOb [] (some s):=by
  subst hBe
  refine⟨.slice none 0 0,.slice none 0 0,.slice none 0 0,.slice none 0 0,?_,TkRows.nil_ _ _,rfl,⟨0,false,?_,by omega,rfl⟩⟩
  ·have:=Blk.new (W0.alloc (.cells #[.string (txt s),.int .i64 0,.bool false] rdT)) 193 (tkCells W0.heap.size [] 0 (.slice none 0 0) (.slice none 0 0) 0 [] (.slice none 0 0) (.slice none 0 0) 0 0)
   rwa [World.size_alloc] at this
  ·exact(Blk.new W0 rdT #[.string (txt s),.int .i64 0,.bool false]).alloc _
 have hK0:TkK B W0 ((W0.alloc (.cells #[.string (txt s),.int .i64 0,.bool false] rdT)).alloc (.cells (tkCells B [] 0 (.slice none 0 0) (.slice none 0 0) 0 [] (.slice none 0 0) (.slice none 0 0) 0 0) 193)):=by
  subst hBe
  exact⟨((KeepB.refl _ _).alloc _).alloc _,((Below.refl _ _).alloc (Nat.le_refl _) _).alloc (by simp) _⟩
 rw[← hBe] at hzz ⊢
 subst hw1
 have hsz:(W0.alloc (.cells #[.string (txt s),.int .i64 0,.bool false] rdT)).heap.size=B+1:=by rw[World.size_alloc,hBe]
 have hA00:=zh hA0
 have hK00:=zh hK0
 clear hA0 hK0
 go_upto_region 2 with fail
 rw[← hBe]
 generalize hW2:((W0.alloc (.cells #[.string (txt s),.int .i64 0,.bool false] rdT)).alloc (.cells #[.pointer (some ⟨B,0,none⟩),.string ⟨#[]⟩,.int .u32 0,.slice none 0 0,.slice none 0 0,.int .i64 0,.string ⟨#[]⟩,.slice none 0 0,.slice none 0 0,.int .i64 0,.int .i64 0] 193))=W2
 have hA2:TkAt B (B+1) B s W2 zeroOb [] (some s):=by rw[← hW2];exact hA00.out
 have hK2:TkK B W0 W2:=by rw[← hW2];exact hK00.out
 have hA2:=zh hA2
 have hK2:=zh hK2
 clear hW2 hA00 hK00
 have hBeq:=zh hBe
 clear hsz hBe
 have S0:=hA2.out.c0
 have RT:=zh (rd_text B s (some s) W2 hA2.out.rdis hss.out)
 go_wp2_with fail
 refine RT.out.mono ?_
 rintro e w3 ⟨t,st1,rfl,h1,h2,h3,h4⟩
 obtain⟨hA,hKA⟩:=hA2.out.rd h2 h3 (Nat.le_refl _)
 have hA:=zh hA
 have hK:=zh (hK2.out.trans hKA)
 have h1:=zh h1
 clear h2 h3 hKA
 unfold tVal
 have ZB3:=zh (ZB.out.keepB hK.out.1 (by decide))
 have BZ3:=zh (BZ.out.trans (hK.out.2.mono (Nat.le_of_lt hzz.out)))
 by_cases ht:t=head
 case neg=>
  have hd:=zh (decO_none (parse_nohead h1.out ht))
  have hq:((txt t).toList==[83,80,79,66])=false:=by rw[head_eq];exact decide_eq_false ht
  have hq2:¬ (txt t).toList=[83,80,79,66]:=by simpa using hq
  clear ht
  go_upto_region 3 with fail
  refine wp_region_lit ?_
  refine wpList_build rfl 48 #[] rfl (by kernel_rfl) ?_
  refine wpList_store_row rfl 48 (.tmp 2) (.tmp 19) rfl w.heap.size #[.string ⟨#[]⟩,.int .u32 0,.slice none 0 0,.slice none 0 0,.int .i64 0,.string ⟨#[]⟩,.slice none 0 0,.slice none 0 0,.int .i64 0,.int .i64 0] rfl (by kernel_rfl) 48 _ ZB3.out (by kernel_rfl) rfl (by kernel_rfl) ?_
  have hb:=zh (below_setRow BZ3.out (Nat.le_refl _) #[.string ⟨#[]⟩,.int .u32 0,.slice none 0 0,.slice none 0 0,.int .i64 0,.string ⟨#[]⟩,.slice none 0 0,.slice none 0 0,.int .i64 0,.int .i64 0])
  have hg:=setRow_heap _ w.heap.size _ #[.string ⟨#[]⟩,.int .u32 0,.slice none 0 0,.slice none 0 0,.int .i64 0,.string ⟨#[]⟩,.slice none 0 0,.slice none 0 0,.int .i64 0,.int .i64 0] 48 (0,0) ZB3.out
  generalize World.setRow _ _ _=W at *
  have hl:=run_loadVar_row W w.heap.size 48 48 _ (0,0) _ hg Tryz.underlying48 rfl (by kernel_rfl)
  have hl:=zh hl
  clear hg
  go_wp2_with fail
  have hl:=hl.out
  refine bodyPost_ret (v:=.tuple #[.agg (obCells zeroOb nilS nilS nilS nilS),.int .i64 230]) ?_ rfl ⟨Or.inr ⟨hd.out,rfl⟩,hb.out⟩
  simp only[results,Tryz.results65]
  simp[hl,asAddr,obCells,zeroOb,nilS]
  rfl
 have hq:((txt t).toList==[83,80,79,66])=true:=by rw[head_eq];exact decide_eq_true ht
 have hq2:(txt t).toList=[83,80,79,66]:=by simpa using hq
 have hth:=zh ht
 clear ZB3 BZ3 ht
 go_upto_region 4 with fail
 have FB:=zh (Blk.new w3 1 #[(.func (.func 103) #[.pointer (some ⟨B+1,0,none⟩)] #[]:Value),(.func (.func 104) #[.pointer (some ⟨B+1,0,none⟩)] #[]:Value),(.func (.func 105) #[.pointer (some ⟨B+1,0,none⟩)] #[]:Value),(.func (.func 106) #[.pointer (some ⟨B+1,0,none⟩)] #[]:Value),(.func (.func 107) #[.pointer (some ⟨B+1,0,none⟩)] #[]:Value),(.func (.func 108) #[.pointer (some ⟨B+1,0,none⟩)] #[]:Value)])
 have hA4:=zh (hA.out.below ((Below.refl _ _).alloc (Nat.le_refl _) (.cells #[(.func (.func 103) #[.pointer (some ⟨B+1,0,none⟩)] #[]:Value),(.func (.func 104) #[.pointer (some ⟨B+1,0,none⟩)] #[]:Value),(.func (.func 105) #[.pointer (some ⟨B+1,0,none⟩)] #[]:Value),(.func (.func 106) #[.pointer (some ⟨B+1,0,none⟩)] #[]:Value),(.func (.func 107) #[.pointer (some ⟨B+1,0,none⟩)] #[]:Value),(.func (.func 108) #[.pointer (some ⟨B+1,0,none⟩)] #[]:Value)] 1)))
 have hK4:=zh (hK.out.trans (⟨(KeepB.refl _ _).alloc _,(Below.refl _ _).alloc (Nat.le_of_lt (tk_lt hA.out)) _⟩:TkK B w3 (w3.alloc (.cells #[(.func (.func 103) #[.pointer (some ⟨B+1,0,none⟩)] #[]:Value),(.func (.func 104) #[.pointer (some ⟨B+1,0,none⟩)] #[]:Value),(.func (.func 105) #[.pointer (some ⟨B+1,0,none⟩)] #[]:Value),(.func (.func 106) #[.pointer (some ⟨B+1,0,none⟩)] #[]:Value),(.func (.func 107) #[.pointer (some ⟨B+1,0,none⟩)] #[]:Value),(.func (.func 108) #[.pointer (some ⟨B+1,0,none⟩)] #[]:Value)] 1))))
 obtain⟨fb,hfb⟩:∃ fb,fb=w3.heap.size:=⟨_,rfl⟩
 go_wp2_with fail
 rw[← hfb] at FB ⊢
 clear hfb
 generalize w3.alloc (.cells #[(.func (.func 103) #[.pointer (some ⟨B+1,0,none⟩)] #[]:Value),(.func (.func 104) #[.pointer (some ⟨B+1,0,none⟩)] #[]:Value),(.func (.func 105) #[.pointer (some ⟨B+1,0,none⟩)] #[]:Value),(.func (.func 106) #[.pointer (some ⟨B+1,0,none⟩)] #[]:Value),(.func (.func 107) #[.pointer (some ⟨B+1,0,none⟩)] #[]:Value),(.func (.func 108) #[.pointer (some ⟨B+1,0,none⟩)] #[]:Value)] 1)=w4 at *
 clear hA hK hA2 hK2 RT
 refine wp_loop_rounds 7 ?_
 have SF0:w4.cell? ⟨fb,0,none⟩=some (.func (.func 103) #[.pointer (some ⟨B+1,0,none⟩)] #[]:Value):=FB.out.cell 0
 have CT:=zh (tk_begin B (B+1) B s ⟨[],0,[],[],0,[],[],[],0,0⟩ [] st1 w4 hA4.out ⟨Nat.le_succ _,Nat.le_refl _⟩ hss.out)
 rw[rounds_succ]
 go_wp2_with fail
 refine CT.out.mono ?_
 clear CT
 rintro e w5 ⟨rfl,t1,x1,s2,s3,T1,T2,b1,b2,hA,hK⟩
 have hA5:TkAt B (B+1) B s w5 ⟨t1,x1,[],[],0,[],[],[],0,0⟩ [] s3:=hA
 have hA5:=zh hA5
 have FB:=zh (FB.out.keepB hK.1 (by decide))
 have hK5:=zh (hK4.out.trans hK)
 have T1h:=zh T1
 have T2h:=zh T2
 have b1h:=zh b1
 have b2h:=zh b2
 clear T1 T2 b1 b2 hA hK SF0
 have SF1:w5.cell? ⟨fb,1,none⟩=some (.func (.func 104) #[.pointer (some ⟨B+1,0,none⟩)] #[]:Value):=FB.out.cell 1
 have CT:=zh (tk_uses B (B+1) B s ⟨t1,x1,[],[],0,[],[],[],0,0⟩ [] s3 w5 hA5.out ⟨Nat.le_succ _,Nat.le_refl _⟩ hss.out rfl)
 go_wp2_with fail
 rw[rounds_succ]
 go_wp2_with fail
 refine CT.out.mono ?_
 clear CT
 rintro e w6 ⟨rfl,n2,us,s4,s5,T3,T4,b3,hA,hK⟩
 have hA6:TkAt B (B+1) B s w6 ⟨t1,x1,us,[],0,[],[],[],0,0⟩ [] s5:=hA
 have hA6:=zh hA6
 have FB:=zh (FB.out.keepB hK.1 (by decide))
 have hK6:=zh (hK5.out.trans hK)
 have T3h:=zh T3
 have T4h:=zh T4
 have b3h:=zh b3
 clear T3 T4 b3 hA hK SF1
 have SF2:w6.cell? ⟨fb,2,none⟩=some (.func (.func 105) #[.pointer (some ⟨B+1,0,none⟩)] #[]:Value):=FB.out.cell 2
 have CT:=zh (tk_descs B (B+1) B s ⟨t1,x1,us,[],0,[],[],[],0,0⟩ [] s5 w6 hA6.out ⟨Nat.le_succ _,Nat.le_refl _⟩ hss.out ⟨rfl,rfl⟩)
 go_wp2_with fail
 rw[rounds_succ]
 go_wp2_with fail
 refine CT.out.mono ?_
 clear CT
 rintro e w7 ⟨rfl,n3,dl,s6,s7,T5,T6,b4,hA,hK⟩
 have hA7:TkAt B (B+1) B s w7 ⟨t1,x1,us,(dl.map (·.1)),0,[],[],[],0,0⟩ dl s7:=hA
 have hA7:=zh hA7
 have FB:=zh (FB.out.keepB hK.1 (by decide))
 have hK7:=zh (hK6.out.trans hK)
 have T5h:=zh T5
 have T6h:=zh T6
 have b4h:=zh b4
 clear T5 T6 b4 hA hK SF2
 have SF3:w7.cell? ⟨fb,3,none⟩=some (.func (.func 106) #[.pointer (some ⟨B+1,0,none⟩)] #[]:Value):=FB.out.cell 3
 have CT:=zh (tk_data B (B+1) B s ⟨t1,x1,us,(dl.map (·.1)),0,[],[],[],0,0⟩ dl s7 w7 hA7.out ⟨Nat.le_succ _,Nat.le_refl _⟩ hss.out)
 go_wp2_with fail
 rw[rounds_succ]
 go_wp2_with fail
 refine CT.out.mono ?_
 clear CT
 rintro e w8 ⟨rfl,d4,n4,ss,s8,s9,s10,T7,T8,T9,b5,b6,hA,hK⟩
 have hA8:TkAt B (B+1) B s w8 ⟨t1,x1,us,(dl.map (·.1)),d4,ss,[],[],0,0⟩ dl s10:=hA
 have hA8:=zh hA8
 have FB:=zh (FB.out.keepB hK.1 (by decide))
 have hK8:=zh (hK7.out.trans hK)
 have T7h:=zh T7
 have T8h:=zh T8
 have T9h:=zh T9
 have b5h:=zh b5
 have b6h:=zh b6
 clear T7 T8 T9 b5 b6 hA hK SF3
 have SF4:w8.cell? ⟨fb,4,none⟩=some (.func (.func 107) #[.pointer (some ⟨B+1,0,none⟩)] #[]:Value):=FB.out.cell 4
 have CT:=zh (tk_code B (B+1) B s ⟨t1,x1,us,(dl.map (·.1)),d4,ss,[],[],0,0⟩ dl s10 w8 hA8.out ⟨Nat.le_succ _,Nat.le_refl _⟩ hss.out rfl)
 go_wp2_with fail
 rw[rounds_succ]
 go_wp2_with fail
 refine CT.out.mono ?_
 clear CT
 rintro e w9 ⟨rfl,n5,co,s11,s12,T10,T11,b7,hA,hK⟩
 have hA9:TkAt B (B+1) B s w9 ⟨t1,x1,us,(dl.map (·.1)),d4,ss,co,[],0,0⟩ dl s12:=hA
 have hA9:=zh hA9
 have FB:=zh (FB.out.keepB hK.1 (by decide))
 have hK9:=zh (hK8.out.trans hK)
 have T10h:=zh T10
 have T11h:=zh T11
 have b7h:=zh b7
 clear T10 T11 b7 hA hK SF4
 have SF5:w9.cell? ⟨fb,5,none⟩=some (.func (.func 108) #[.pointer (some ⟨B+1,0,none⟩)] #[]:Value):=FB.out.cell 5
 have CT:=zh (tk_entries B (B+1) B s ⟨t1,x1,us,(dl.map (·.1)),d4,ss,co,[],0,0⟩ dl s12 w9 hA9.out ⟨Nat.le_succ _,Nat.le_refl _⟩ hss.out rfl)
 go_wp2_with fail
 rw[rounds_succ]
 go_wp2_with fail
 refine CT.out.mono ?_
 clear CT
 rintro e w10 ⟨rfl,n6,en,ca,pl,s13,s14,s15,s16,T12,T13,T14,T15,b8,b9,b10,hA,hK⟩
 have hA10:TkAt B (B+1) B s w10 ⟨t1,x1,us,(dl.map (·.1)),d4,ss,co,en,ca,pl⟩ dl s16:=hA
 have hA10:=zh hA10
 have FB:=zh (FB.out.keepB hK.1 (by decide))
 have hK10:=zh (hK9.out.trans hK)
 have T12h:=zh T12
 have T13h:=zh T13
 have T14h:=zh T14
 have T15h:=zh T15
 have b8h:=zh b8
 have b9h:=zh b9
 have b10h:=zh b10
 clear T12 T13 T14 T15 b8 b9 b10 hA hK SF5
 go_wp2_with fail
 rw[rounds_succ]
 go_upto_region 9 with fail
 have hpar:=zh (parse_took (b:=false) h1.out hth.out T1h.out T2h.out (took_cnt T3h.out) T4h.out (took_cnt T5h.out) T6h.out T7h.out (took_cnt T8h.out) T9h.out (took_cnt T10h.out) T11h.out (took_cnt T12h.out) T13h.out T14h.out T15h.out)
 have hfine:ObFine ⟨t1,x1,us,(dl.map (·.1)),d4,ss,co,en,ca,pl⟩:=by
  have q1:=b1h.out;have q2:=b2h.out;have q3:=b3h.out;have q4:=b4h.out;have q5:=b5h.out;have q6:=b6h.out;have q7:=b7h.out;have q8:=b8h.out;have q9:=b9h.out;have q10:=b10h.out
  have hs':=hss.out
  unfold tOk at q1 q6
  unfold wOk at q2
  unfold nOk at q5 q9 q10
  have wide:∀ x:Int,nOk x→I64 x:=fun x h=>by unfold nOk at h;unfold I64;omega
  refine⟨by show t1.length≤_;omega,q2,fun u hu=>⟨?_,(q3 u hu).2⟩,fun d hd=>⟨wide _ (q4 d hd).1,fun e he=>⟨wide _ ((q4 d hd).2 e he).1,wide _ ((q4 d hd).2 e he).2⟩⟩,wide _ b5h.out,by show ss.length≤_;omega,q7,fun x hx=>wide _ (q8 x hx),wide _ q9,wide _ q10⟩
  have:=(q3 u hu).1
  unfold tOk at this
  omega
 obtain⟨vU,vD,vC,vE,hbk,hrows,hdc,hrd⟩:=hA10.out
 have hP:=hrows.parts (o:=⟨t1,x1,us,(dl.map (·.1)),d4,ss,co,en,ca,pl⟩) rfl rfl rfl rfl
 have hfine:=zh hfine
 have hrowsh:=zh hrows
 clear hrows hdc hrd
 obtain⟨bs,er,hres,her0,hbs0⟩:=encRes_is (goodO ⟨t1,x1,us,(dl.map (·.1)),d4,ss,co,en,ca,pl⟩) ⟨t1,x1,us,(dl.map (·.1)),d4,ss,co,en,ca,pl⟩
 have CE:=obj_encode ⟨t1,x1,us,(dl.map (·.1)),d4,ss,co,en,ca,pl⟩ vU vD vC vE w10 hP (goodO ⟨t1,x1,us,(dl.map (·.1)),d4,ss,co,en,ca,pl⟩) good_wr (fun W hp=>obj_good _ _ _ _ _ W hp hfine.out)
 rw[hres] at CE
 have hPh:=zh hP
 clear hres
 obtain⟨hU,hD,hC,hE⟩:=hP
 obtain⟨-,AU,kU,rfl,-⟩:=hU
 obtain⟨-,AD,kD,rfl,-⟩:=hD
 obtain⟨-,AC,kC,rfl,-⟩:=hC
 obtain⟨-,AE,kE,rfl,-⟩:=hE
 dsimp only at CE hPh hbk
 simp only[obCells] at CE
 have hbkh:=zh hbk
 have CEh:=zh CE
 have her:=zh her0
 have hbs:=zh hbs0
 clear her0 hbs0
 have C1:=hbk.cell 1
 have C2:=hbk.cell 2
 have C3:=hbk.cell 3
 have C4:=hbk.cell 4
 have C5:=hbk.cell 5
 have C6:=hbk.cell 6
 have C7:=hbk.cell 7
 have C8:=hbk.cell 8
 have C9:=hbk.cell 9
 have C10:=hbk.cell 10
 simp only[tkCells,gAr,gC0,gCs] at C1 C2 C3 C4 C5 C6 C7 C8 C9 C10
 have hA10h:=zh hA10.out
 clear hbk CE hA10
 generalize hds:dl.map (fun x=>x.1)=ds at *
 have hdsh:=zh hds
 clear hds
 by_cases hc1:s16=some []
 case neg=>
  have hno:=zh (decO_no hpar.out (fun h=>hc1 h.1))
  have hend:decide (s16=some [])=false:=decide_eq_false hc1
  clear hc1
  go_wp2_with fail
  refine CEh.out.mono ?_
  rintro e w11 ⟨rfl,hb11⟩
  have S0:=(hA10h.out.below hb11).c0
  have RE:=zh (rd_end B s s16 w11 (hA10h.out.below hb11).rdis hss.out)
  rw[hend] at RE
  have KB11:=zh (KeepB.of_below (bad:=fun t=>t==48) hb11)
  have hb11h:=zh hb11
  clear C1 C2 C3 C4 C5 C6 C7 C8 C9 C10 hb11 hend
  go_wp2_with fail
  refine RE.out.mono ?_
  rintro e w12 ⟨rfl,q,hq12⟩
  have hb12:Below w11.heap.size w11 w12:=by rw[hq12];exact rd_drewN _ _
  have hb10:Below w10.heap.size w10 w12:=hb11h.out.trans (hb12.mono hb11h.out.size)
  have KB12:=zh (KeepB.of_below (bad:=fun t=>t==48) hb10)
  have ZB12:=zh ((ZB.out.keepB hK10.out.1 (by decide)).keepB (bad:=fun _=>false) (KeepB.of_below hb10) rfl)
  have BZ12:=zh (BZ.out.trans ((hK10.out.2.mono (Nat.le_of_lt hzz.out)).trans (hb10.mono (Nat.le_of_lt (Nat.lt_trans hzz.out (tk_lt hA10h.out))))))
  have hbk12:=zh (hbkh.out.keepB (bad:=fun _=>false) (KeepB.of_below hb10) rfl)
  clear hq12 hb12 hb10 S0 RE
  go_upto_region 11 with fail
  refine wp_region_lit ?_
  refine wpList_build rfl 48 #[] rfl (by kernel_rfl) ?_
  refine wpList_store_row rfl 48 (.tmp 2) (.tmp 64) rfl w.heap.size #[.string ⟨#[]⟩,.int .u32 0,.slice none 0 0,.slice none 0 0,.int .i64 0,.string ⟨#[]⟩,.slice none 0 0,.slice none 0 0,.int .i64 0,.int .i64 0] rfl (by kernel_rfl) 48 _ ZB12.out (by kernel_rfl) rfl (by kernel_rfl) ?_
  have hb:=zh (below_setRow BZ12.out (Nat.le_refl _) #[.string ⟨#[]⟩,.int .u32 0,.slice none 0 0,.slice none 0 0,.int .i64 0,.string ⟨#[]⟩,.slice none 0 0,.slice none 0 0,.int .i64 0,.int .i64 0])
  have hg:=setRow_heap _ w.heap.size _ #[.string ⟨#[]⟩,.int .u32 0,.slice none 0 0,.slice none 0 0,.int .i64 0,.string ⟨#[]⟩,.slice none 0 0,.slice none 0 0,.int .i64 0,.int .i64 0] 48 (0,0) ZB12.out
  generalize World.setRow _ _ _=W at *
  have hl:=run_loadVar_row W w.heap.size 48 48 _ (0,0) _ hg Tryz.underlying48 rfl (by kernel_rfl)
  have hl:=zh hl
  clear hg
  go_wp2_with fail
  have hl:=hl.out
  refine bodyPost_ret (v:=.tuple #[.agg (obCells zeroOb nilS nilS nilS nilS),.int .i64 230]) ?_ rfl ⟨Or.inr ⟨hno.out,rfl⟩,hb.out⟩
  simp only[results,Tryz.results65]
  simp[hl,asAddr,obCells,zeroOb,nilS]
  rfl
 have hend:decide (s16=some [])=true:=decide_eq_true hc1
 by_cases hc2:er=0
 case neg=>
  have hno:=zh (decO_no hpar.out (fun h=>hc2 (her.out.2 ⟨h.2.1,h.2.2.1⟩)))
  clear hc1
  go_wp2_with fail
  refine CEh.out.mono ?_
  rintro e w11 ⟨rfl,hb11⟩
  have S0:=(hA10h.out.below hb11).c0
  have RE:=zh (rd_end B s s16 w11 (hA10h.out.below hb11).rdis hss.out)
  rw[hend] at RE
  have KB11:=zh (KeepB.of_below (bad:=fun t=>t==48) hb11)
  have hb11h:=zh hb11
  clear C1 C2 C3 C4 C5 C6 C7 C8 C9 C10 hb11 hend
  go_wp2_with fail
  refine RE.out.mono ?_
  rintro e w12 ⟨rfl,q,hq12⟩
  have hb12:Below w11.heap.size w11 w12:=by rw[hq12];exact rd_drewN _ _
  have hb10:Below w10.heap.size w10 w12:=hb11h.out.trans (hb12.mono hb11h.out.size)
  have KB12:=zh (KeepB.of_below (bad:=fun t=>t==48) hb10)
  have ZB12:=zh ((ZB.out.keepB hK10.out.1 (by decide)).keepB (bad:=fun _=>false) (KeepB.of_below hb10) rfl)
  have BZ12:=zh (BZ.out.trans ((hK10.out.2.mono (Nat.le_of_lt hzz.out)).trans (hb10.mono (Nat.le_of_lt (Nat.lt_trans hzz.out (tk_lt hA10h.out))))))
  have hbk12:=zh (hbkh.out.keepB (bad:=fun _=>false) (KeepB.of_below hb10) rfl)
  clear hq12 hb12 hb10 S0 RE
  go_upto_region 11 with fail
  refine wp_region_lit ?_
  refine wpList_build rfl 48 #[] rfl (by kernel_rfl) ?_
  refine wpList_store_row rfl 48 (.tmp 2) (.tmp 64) rfl w.heap.size #[.string ⟨#[]⟩,.int .u32 0,.slice none 0 0,.slice none 0 0,.int .i64 0,.string ⟨#[]⟩,.slice none 0 0,.slice none 0 0,.int .i64 0,.int .i64 0] rfl (by kernel_rfl) 48 _ ZB12.out (by kernel_rfl) rfl (by kernel_rfl) ?_
  have hb:=zh (below_setRow BZ12.out (Nat.le_refl _) #[.string ⟨#[]⟩,.int .u32 0,.slice none 0 0,.slice none 0 0,.int .i64 0,.string ⟨#[]⟩,.slice none 0 0,.slice none 0 0,.int .i64 0,.int .i64 0])
  have hg:=setRow_heap _ w.heap.size _ #[.string ⟨#[]⟩,.int .u32 0,.slice none 0 0,.slice none 0 0,.int .i64 0,.string ⟨#[]⟩,.slice none 0 0,.slice none 0 0,.int .i64 0,.int .i64 0] 48 (0,0) ZB12.out
  generalize World.setRow _ _ _=W at *
  have hl:=run_loadVar_row W w.heap.size 48 48 _ (0,0) _ hg Tryz.underlying48 rfl (by kernel_rfl)
  have hl:=zh hl
  clear hg
  go_wp2_with fail
  have hl:=hl.out
  refine bodyPost_ret (v:=.tuple #[.agg (obCells zeroOb nilS nilS nilS nilS),.int .i64 230]) ?_ rfl ⟨Or.inr ⟨hno.out,rfl⟩,hb.out⟩
  simp only[results,Tryz.results65]
  simp[hl,asAddr,obCells,zeroOb,nilS]
  rfl
 have heqs:=zh (hbs.out hc2)
 have hgl:=zh (her.out.1 hc2)
 clear her hbs
 subst hc2
 by_cases hc3:bs=s
 case neg=>
  have hno:=zh (decO_no hpar.out (fun h=>hc3 (heqs.out.trans h.2.2.2)))
  have hq3:¬ (txt bs).toList=(txt s).toList:=by
   have:=str_eq bs s
   rw[decide_eq_false hc3] at this
   simpa using this
  have hq4:((txt bs).toList==(txt s).toList)=false:=by rw[str_eq];exact decide_eq_false hc3
  clear hc1 hc3
  go_wp2_with fail
  refine CEh.out.mono ?_
  rintro e w11 ⟨rfl,hb11⟩
  have S0:=(hA10h.out.below hb11).c0
  have RE:=zh (rd_end B s s16 w11 (hA10h.out.below hb11).rdis hss.out)
  rw[hend] at RE
  have KB11:=zh (KeepB.of_below (bad:=fun t=>t==48) hb11)
  have hb11h:=zh hb11
  clear C1 C2 C3 C4 C5 C6 C7 C8 C9 C10 hb11 hend
  go_wp2_with fail
  refine RE.out.mono ?_
  rintro e w12 ⟨rfl,q,hq12⟩
  have hb12:Below w11.heap.size w11 w12:=by rw[hq12];exact rd_drewN _ _
  have hb10:Below w10.heap.size w10 w12:=hb11h.out.trans (hb12.mono hb11h.out.size)
  have KB12:=zh (KeepB.of_below (bad:=fun t=>t==48) hb10)
  have ZB12:=zh ((ZB.out.keepB hK10.out.1 (by decide)).keepB (bad:=fun _=>false) (KeepB.of_below hb10) rfl)
  have BZ12:=zh (BZ.out.trans ((hK10.out.2.mono (Nat.le_of_lt hzz.out)).trans (hb10.mono (Nat.le_of_lt (Nat.lt_trans hzz.out (tk_lt hA10h.out))))))
  have hbk12:=zh (hbkh.out.keepB (bad:=fun _=>false) (KeepB.of_below hb10) rfl)
  clear hq12 hb12 hb10 S0 RE
  go_upto_region 11 with fail
  refine wp_region_lit ?_
  refine wpList_build rfl 48 #[] rfl (by kernel_rfl) ?_
  refine wpList_store_row rfl 48 (.tmp 2) (.tmp 64) rfl w.heap.size #[.string ⟨#[]⟩,.int .u32 0,.slice none 0 0,.slice none 0 0,.int .i64 0,.string ⟨#[]⟩,.slice none 0 0,.slice none 0 0,.int .i64 0,.int .i64 0] rfl (by kernel_rfl) 48 _ ZB12.out (by kernel_rfl) rfl (by kernel_rfl) ?_
  have hb:=zh (below_setRow BZ12.out (Nat.le_refl _) #[.string ⟨#[]⟩,.int .u32 0,.slice none 0 0,.slice none 0 0,.int .i64 0,.string ⟨#[]⟩,.slice none 0 0,.slice none 0 0,.int .i64 0,.int .i64 0])
  have hg:=setRow_heap _ w.heap.size _ #[.string ⟨#[]⟩,.int .u32 0,.slice none 0 0,.slice none 0 0,.int .i64 0,.string ⟨#[]⟩,.slice none 0 0,.slice none 0 0,.int .i64 0,.int .i64 0] 48 (0,0) ZB12.out
  generalize World.setRow _ _ _=W at *
  have hl:=run_loadVar_row W w.heap.size 48 48 _ (0,0) _ hg Tryz.underlying48 rfl (by kernel_rfl)
  have hl:=zh hl
  clear hg
  go_wp2_with fail
  have hl:=hl.out
  refine bodyPost_ret (v:=.tuple #[.agg (obCells zeroOb nilS nilS nilS nilS),.int .i64 230]) ?_ rfl ⟨Or.inr ⟨hno.out,rfl⟩,hb.out⟩
  simp only[results,Tryz.results65]
  simp[hl,asAddr,obCells,zeroOb,nilS]
  rfl
 have hyes:=zh (decO_yes (by rw[hpar.out,hc1];rfl) hgl.out.1 hgl.out.2 (heqs.out.symm.trans hc3))
 have hq3:(txt bs).toList=(txt s).toList:=by rw[hc3]
 clear hc1 hc3
 go_wp2_with fail
 refine CEh.out.mono ?_
 rintro e w11 ⟨rfl,hb11⟩
 have S0:=(hA10h.out.below hb11).c0
 have RE:=zh (rd_end B s s16 w11 (hA10h.out.below hb11).rdis hss.out)
 rw[hend] at RE
 have KB11:=zh (KeepB.of_below (bad:=fun t=>t==48) hb11)
 have hb11h:=zh hb11
 clear C1 C2 C3 C4 C5 C6 C7 C8 C9 C10 hb11 hend
 go_wp2_with fail
 refine RE.out.mono ?_
 rintro e w12 ⟨rfl,q,hq12⟩
 have hb12:Below w11.heap.size w11 w12:=by rw[hq12];exact rd_drewN _ _
 have hb10:Below w10.heap.size w10 w12:=hb11h.out.trans (hb12.mono hb11h.out.size)
 have KB12:=zh (KeepB.of_below (bad:=fun t=>t==48) hb10)
 have ZB12:=zh ((ZB.out.keepB hK10.out.1 (by decide)).keepB (bad:=fun _=>false) (KeepB.of_below hb10) rfl)
 have BZ12:=zh (BZ.out.trans ((hK10.out.2.mono (Nat.le_of_lt hzz.out)).trans (hb10.mono (Nat.le_of_lt (Nat.lt_trans hzz.out (tk_lt hA10h.out))))))
 have hbk12:=zh (hbkh.out.keepB (bad:=fun _=>false) (KeepB.of_below hb10) rfl)
 clear hq12 hb12 hb10 S0 RE
 go_upto_region 12 with fail
 refine wp_region_lit ?_
 refine wpList_plain rfl (fun _ hK=>?_)
 go_simp
 refine hK _ _ ?_
 clear hK
 refine wpList_plain rfl (fun _ hK=>?_)
 go_simp
 refine hK _ _ ?_
 clear hK
 refine wpList_plain rfl (fun _ hK=>?_)
 go_simp
 refine hK _ _ ?_
 clear hK
 have hrng:w12.rangeAt (B+1) 1 [.string (txt t1),.int .u32 x1,.slice AU us.length kU,.slice AD ds.length kD,.int .i64 d4,.string (txt ss),.slice AC co.length kC,.slice AE en.length kE,.int .i64 ca,.int .i64 pl]:=fun j v hv=>by
  rw[hbk12.out.cell (1+j),← hv,Nat.add_comm 1 j]
  simp only[tkCells,List.getElem?_toArray,List.getElem?_cons_succ]
 refine wpList_load_mid rfl 48 (.tmp 67) rfl (B+1) 1 rfl [.string (txt t1),.int .u32 x1,.slice AU us.length kU,.slice AD ds.length kD,.int .i64 d4,.string (txt ss),.slice AC co.length kC,.slice AE en.length kE,.int .i64 ca,.int .i64 pl] _ hrng Tryz.underlying48 rfl (by kernel_rfl) ?_
 refine wpList_store_row rfl 48 (.tmp 2) (.tmp 68) rfl w.heap.size #[.string (txt t1),.int .u32 x1,.slice AU us.length kU,.slice AD ds.length kD,.int .i64 d4,.string (txt ss),.slice AC co.length kC,.slice AE en.length kE,.int .i64 ca,.int .i64 pl] rfl (by kernel_rfl) 48 _ ZB12.out (by kernel_rfl) rfl (by kernel_rfl) ?_
 have hb:=zh (below_setRow BZ12.out (Nat.le_refl _) #[.string (txt t1),.int .u32 x1,.slice AU us.length kU,.slice AD ds.length kD,.int .i64 d4,.string (txt ss),.slice AC co.length kC,.slice AE en.length kE,.int .i64 ca,.int .i64 pl])
 have hg:=setRow_heap _ w.heap.size _ #[.string (txt t1),.int .u32 x1,.slice AU us.length kU,.slice AD ds.length kD,.int .i64 d4,.string (txt ss),.slice AC co.length kC,.slice AE en.length kE,.int .i64 ca,.int .i64 pl] 48 (0,0) ZB12.out
 have hRW:=zh (hrowsh.out.keepB (bad:=fun t=>t==48) (KB12.out.setRow_ ZB12.out (by decide) #[.string (txt t1),.int .u32 x1,.slice AU us.length kU,.slice AD ds.length kD,.int .i64 d4,.string (txt ss),.slice AC co.length kC,.slice AE en.length kE,.int .i64 ca,.int .i64 pl]) ⟨by decide,by decide,by decide,by decide,by decide⟩)
 have hPW:=zh (hRW.out.parts (o:=⟨t1,x1,us,ds,d4,ss,co,en,ca,pl⟩) rfl hdsh.out.symm rfl rfl)
 generalize World.setRow _ _ _=W at *
 have hl:=run_loadVar_row W w.heap.size 48 48 _ (0,0) _ hg Tryz.underlying48 rfl (by kernel_rfl)
 have hl:=zh hl
 clear hg
 go_wp2_with fail
 have hl:=hl.out
 refine bodyPost_ret (v:=.tuple #[.agg #[.string (txt t1),.int .u32 x1,.slice AU us.length kU,.slice AD ds.length kD,.int .i64 d4,.string (txt ss),.slice AC co.length kC,.slice AE en.length kE,.int .i64 ca,.int .i64 pl],.int .i64 0]) ?_ rfl ⟨Or.inl ⟨⟨t1,x1,us,ds,d4,ss,co,en,ca,pl⟩,_,_,_,_,_,dl,hyes.out,hfine.out,rfl,hPW.out,hRW.out,hdsh.out.symm⟩,hb.out⟩
 simp only[results,Tryz.results65]
 simp[hl,asAddr,obCells,zeroOb,nilS]
end Go.Proofs.YtceflhffilldeaaGreat
