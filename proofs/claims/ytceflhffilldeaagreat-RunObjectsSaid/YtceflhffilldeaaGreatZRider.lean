/-
  Joined: ZRider.
-/
import Derived.Test.YtceflhffilldeaaGreatZObjM
import Derived.Test.YtceflhffilldeaaGreatIdxLay
import Derived.Lib.AppendStr
import Derived.Lib.SlBytesRow
import Derived.IntWalk
import Derived.OneCell
import Derived.Test.YtceflhffilldeaaGreatZBits
import Derived.Maps.AppendAt
set_option linter.unusedVariables false
set_option linter.unusedSimpArgs false
set_option maxRecDepth 100000
set_option maxHeartbeats 16000000
namespace Go.Proofs.YtceflhffilldeaaGreat
open Go.RowKit ObjL Go.Lib
theorem rw_u8_info:(Tryz.prog.info? 5).map (fun i=>(i.zero,i.size,i.bytes))=some (some (.int .u8 0),1,1):=by kernel_rfl
def cellsOf (l:List UInt8):List Value:=l.map fun b=>Value.int .u8 b.toNat
theorem strCells_txt (l:List UInt8):strCells (txt l)=cellsOf l:=by unfold strCells cellsOf;rw[txt_data]
theorem cellsOf_app (a b:List UInt8):cellsOf (a++b)=cellsOf a++cellsOf b:=by simp[cellsOf]
theorem cellsOf_len (a:List UInt8):(cellsOf a).length=a.length:=by simp[cellsOf]
def WrIs (B:Nat) (w:World) (p:Nat) (acc:List UInt8) (sp:Bool):Prop:=
 B≤p∧∃ (v:Value) (b:List UInt8),Blk w p 245 #[v,.bool sp,.bool (decide (131072<acc.length))]∧w.ownsRow B 5 1 v b.length (cellsOf b)∧(acc.length≤131072→b=acc)∧b.length≤acc.length
def WdIs (B:Nat) (w:World) (p:Nat) (acc:List UInt8) (sp:Bool):Prop:=
 B≤p∧∃ (v:Value),Blk w p 88 #[v,.bool sp]∧w.ownsRow B 5 1 v acc.length (cellsOf acc)
theorem u8row_kept {S:Nat→Prop} {w w':World} {base n size:Nat} {e:TypeId} {v:Value} {xs:List Value} (h:w.ownsRow base e size v n xs) (hk:Kept S w w') (hS:∀ k,v.ownBlock=some k→S k):w'.ownsRow base e size v n xs:=by
 obtain⟨h1,h2⟩:=h
 refine⟨h1,?_⟩
 rcases h2 with h2 | ⟨g,cap,cur,rfl,hg,hh,r⟩
 ·exact Or.inl h2
 ·exact Or.inr ⟨g,cap,cur,rfl,hg,(hk.block g (hS g rfl)).trans hh,r⟩
theorem WrIs.below {B:Nat} {w w':World} {p:Nat} {acc:List UInt8} {sp:Bool} (h:WrIs B w p acc sp) (hb:Below w.heap.size w w'):WrIs B w' p acc sp:=by
 obtain⟨h0,v,b,h1,h2,h3,h4⟩:=h
 exact⟨h0,v,b,h1.below hb h1.lt,u8row_kept h2 ((Kept.refl (fun k=>k<w.heap.size) w).below hb fun k hk=>hk) (fun k hk=>(h2.lt k hk).2),h3,h4⟩
theorem WdIs.below {B:Nat} {w w':World} {p:Nat} {acc:List UInt8} {sp:Bool} (h:WdIs B w p acc sp) (hb:Below w.heap.size w w'):WdIs B w' p acc sp:=by
 obtain⟨h0,v,h1,h2⟩:=h
 exact⟨h0,v,h1.below hb h1.lt,u8row_kept h2 ((Kept.refl (fun k=>k<w.heap.size) w).below hb fun k hk=>hk) (fun k hk=>(h2.lt k hk).2)⟩
theorem rw_write (w:World):Calls Tryz.prog 144 #[] w fun e w'=>e=.returned (.pointer (some ⟨w.heap.size,0,none⟩))∧WrIs w.heap.size w' w.heap.size [] false∧Below w.heap.size w w':=by
 go_enter Tryz.func144,Tryz.ntmps144
 go_wp2_with fail
 go_ret
 exact⟨rfl,⟨Nat.le_refl _,.slice none 0 0,[],Blk.new w _ _,World.ownsRow_nil _ _ _ _,fun _=>rfl,by simp⟩,(Below.refl _ _).alloc (Nat.le_refl _) _⟩
theorem own_ne_p {w:World} {B p n:Nat} {v:Value} {t:TypeId} {cs:Array Value} {xs:List Value} (h:w.ownsRow B 5 1 v n xs) (hb:Blk w p t cs) (ht:5≠t):v.ownBlock≠some p:=by
 intro hk
 rcases h.2 with ⟨rfl,_⟩ | ⟨g',cap,cur,rfl,hg,hh,_⟩
 ·cases hk
 ·have hk:=Option.some.inj hk
  dsimp only at hk
  subst hk
  unfold Blk at hb
  rw[hh] at hb
  injection hb with hb
  injection hb with _ h2
  exact ht h2
theorem own_slice {w:World} {base n size:Nat} {e:TypeId} {v:Value} {xs:List Value} (h:w.ownsRow base e size v n xs):∃ A c,v=.slice A n c:=by
 rcases h.2 with ⟨rfl,rfl⟩ | ⟨g,cap,cur,rfl,_⟩
 ·exact⟨none,0,rfl⟩
 ·exact⟨_,_,rfl⟩
def KeepT (w w':World):Prop:=∀ g t cs,t≠245→t≠5→Blk w g t cs→Blk w' g t cs
def OkW (B:Nat) (w w':World):Prop:=Below B w w'∧KeepT w w'
theorem OkW.refl (B:Nat) (w:World):OkW B w w:=⟨Below.refl _ _,fun _ _ _ _ _ h=>h⟩
theorem OkW.trans {B:Nat} {a b c:World} (h:OkW B a b) (k:OkW B b c):OkW B a c:=⟨h.1.trans k.1,fun g t cs h1 h2 h3=>k.2 g t cs h1 h2 (h.2 g t cs h1 h2 h3)⟩
theorem OkW.of {B:Nat} {w w':World} (h:Below w.heap.size w w') (hB:B≤w.heap.size):OkW B w w':=⟨h.mono hB,fun g t cs _ _ hb=>hb.below h hb.lt⟩
theorem OkW.alloc (B:Nat) (w:World) (hB:B≤w.heap.size) (o:Obj):OkW B w (w.alloc o):=OkW.of ((Below.refl _ _).alloc (Nat.le_refl _) _) hB
theorem rw_put (B p:Nat) (acc s:List UInt8) (sp:Bool) (w:World) (h:WrIs B w p acc sp) (hB:B≤w.heap.size) (hl:acc.length≤10000000) (hs:s.length≤10000000) :
  Calls Tryz.prog 176 #[.pointer (some ⟨p,0,none⟩),.string (txt s)] w fun e w'=>e=.returned (.tuple #[])∧WrIs B w' p (acc++s) sp∧OkW B w w':=by
 obtain⟨h0,v,b,h1,h2,h3,h4⟩:=h
 have c0:=h1.cell 0
 have c2:=h1.cell 2
 have f0:=h1.frozen 0
 have f2:=h1.frozen 2
 have hpl:=h1.lt
 simp only[gAr,gC0,gCs] at c0 c2
 by_cases hlong:131072<acc.length
 ·have hl2:131072<(acc++s).length:=by rw[List.length_append];omega
  have hfin:=zh (show WrIs B w p (acc++s) sp from ⟨h0,v,b,by rw[decide_eq_true hl2];rw[decide_eq_true hlong] at h1;exact h1,h2,fun hh=>by omega,by rw[List.length_append];omega⟩)
  rw[decide_eq_true hlong] at c2
  clear h1 h2 h3 h4
  go_enter Tryz.func176,Tryz.ntmps176
  go_wp2_with fail
  refine bodyPost_ret (results_none rfl _ _ _) rfl ?_
  exact⟨rfl,hfin.out,OkW.refl _ _⟩
 ·rw[decide_eq_false hlong] at c2 h1
  obtain rfl:b=acc:=h3 (by omega)
  have hne:=own_ne_p h2 h1 (by decide)
  have hbase:∀ k,v.ownBlock=some k→B≤k:=fun k hk=>(h2.lt k hk).1
  obtain⟨i0,hi0,hz0,hz1,hz2⟩:=info_parts rw_u8_info
  have h1':=zh h1
  have h2':=zh h2
  have hsz:=txt_size s
  have hsz':=zh hsz
  have hbs:(txt s).size≤10000000:=by omega
  clear h1 h2 h3 h4 hsz
  have hsc:=zh (strCells_txt s)
  generalize txt s=ts at *
  go_enter Tryz.func176,Tryz.ntmps176
  go_wp2_with (at_builtin;refine wpList_append_own_string _ rfl (.tmp 16) (.tmp 17) 86 9 rfl B 5 i0 Tryz.underlying86 Tryz.underlying9 hi0 hz0 hz1 hz2 v b.length (cellsOf b) rfl h2'.out ts rfl (by simp only[maxLen];omega) (by omega) hB ?_;intro v2 w2 ho2 hg2 _;obtain⟨A2,k2,rfl⟩:=own_slice ho2;have L2:=h1'.out.grown hg2 (Ne.symm (by exact hne));have C0:=L2.cell 0;have C2:=L2.cell 2;have F0:=L2.frozen 0;have F2:=L2.frozen 2;simp only[gAr,gC0,gCs] at C0 C2;have B2:=zh ((Below.refl B w).grown hg2 hB hbase);have L2:=zh L2;have ho2:=zh ho2;have KT:Hid (KeepT w w2):=zh (fun g t cs ht1 ht2 hb=>hb.grown hg2 (fun e=>by rcases h2'.out.2 with ⟨hv,_⟩ | ⟨g',cap',cur',hv,_,hh',_⟩;(rw[hv] at e;cases e);(rw[hv] at e;have e:=Option.some.inj e;dsimp only at e;subst e;unfold Blk at hb;rw[hh'] at hb;injection hb with hb;injection hb with _ hb;exact ht2 hb.symm)));clear hg2)
  go_end0
  refine⟨rfl,?_,(B2.out.setCell h0 _).setCell h0 _,fun g t cs ht1 ht2 hb=>((KT.out g t cs ht1 ht2 hb).far ((KT.out g t cs ht1 ht2 hb).ne_ L2.out ht1) _).far ((KT.out g t cs ht1 ht2 hb).ne_ L2.out ht1) _⟩
  have hn2:=own_ne_p ho2.out L2.out (by decide)
  have e1:(b++s).length=b.length+ts.size:=by rw[List.length_append,hsz'.out]
  have e2:decide ((131072:Int)<(b.length:Int)+(ts.size:Int))=decide (131072<(b++s).length):=decide_eq_decide.2 (by rw[e1];omega)
  refine⟨h0,.slice A2 (b.length+ts.size) k2,b++s,?_,?_,fun _=>rfl,Nat.le_refl _⟩
  ·rw[← e2]
   exact(L2.out.set_ 0 _).set_ 2 _
  ·rw[e1,cellsOf_app,← hsc.out]
   exact ownsRow_setCell_other (ownsRow_setCell_other ho2.out hn2 _) hn2 _
end Go.Proofs.YtceflhffilldeaaGreat
namespace Go.Proofs.YtceflhffilldeaaGreat
open Go.RowKit ObjL Bw
theorem one_bytes (w:World) (x:Int) (h:x=((byte x).toNat:Int)):Go.Lib.Bytes (w.alloc (.cells #[.int .u8 x] 5)) w.heap.size 0 (txt [byte x]):=fun j hj=>by
 rw[txt_size] at hj
 have hj0:j=0:=by simp at hj;omega
 subst hj0
 rw[Nat.zero_add,(Blk.new w 5 #[.int .u8 x]).cell 0]
 show some (Value.int .u8 x)=some (Value.int .u8 ((byte x).toNat:Int))
 rw[← h]
theorem rw_byte (B p:Nat) (acc:List UInt8) (x:Int) (sp:Bool) (w:World) (h:WrIs B w p acc sp) (hB:B≤w.heap.size) (hl:acc.length≤10000000) (hx:0≤x) (hx':x≤255) :
  Calls Tryz.prog 148 #[.pointer (some ⟨p,0,none⟩),.int .i64 x] w fun e w'=>e=.returned (.tuple #[])∧WrIs B w' p (acc++[byte x]) sp∧OkW B w w':=by
 have hb:=byte_toNat x
 have hconv:=Go.Lib.run_convert_whole (P:=Tryz.prog) (w.alloc (.cells #[.int .u8 x] 5)) 86 5 9 Tryz.underlying86 Tryz.underlying5 Tryz.underlying9 w.heap.size 0 (txt [byte x]) (one_bytes w x (by omega)) 1
 rw[txt_size] at hconv
 simp only[List.length_singleton] at hconv
 have P1:=zh (rw_put B p acc [byte x] sp (w.alloc (.cells #[.int .u8 x] 5)) (h.below ((Below.refl _ _).alloc (Nat.le_refl _) _)) (by simp;omega) hl (by simp))
 clear h hb
 generalize txt [byte x]=t at *
 go_enter Tryz.func148,Tryz.ntmps148
 go_wp2_with fail
 refine P1.out.mono ?_
 rintro e w2 ⟨rfl,h2,hb2⟩
 go_wp2_with fail
 go_end0
 exact⟨rfl,h2,(OkW.alloc B w hB _).trans hb2⟩
theorem news_one (w:World) (x:Value) (t:TypeId):∀ (j:Nat) (u:Value),[x][j]?=some u→(w.alloc (.cells #[x] t)).cell? ((⟨w.heap.size,0,none⟩:Addr).add j)=some u:=fun j u hu=>by
 match j,hu with
 | 0,hu=>simp at hu;subst hu;exact(Blk.new w t #[x]).cell 0
 | j+1,hu=>simp at hu
theorem conv_own {w:World} {B n:Nat} {v:Value} {l:List UInt8} (h:w.ownsRow B 5 1 v n (cellsOf l)):(convert 86 9 v).run Tryz.prog w=.ok (.string (txt l)) w:=by
 have hl:l.length=n:=by have:=h.1;rw[cellsOf_len] at this;omega
 rcases h.2 with ⟨rfl,h0⟩ | ⟨g,cap,cur,rfl,hg,hh,r⟩
 ·have:l=[]:=List.eq_nil_of_length_eq_zero (by omega)
  subst this
  exact run_convert_bytes_nil (P:=Tryz.prog) w 86 5 Tryz.underlying86 Tryz.underlying5 0 0 9 Tryz.underlying9
 ·have hb:Go.Lib.Bytes w g 0 (txt l):=fun j hj=>by
   rw[txt_size] at hj
   rw[Nat.zero_add,h.cellAt j (by omega)]
   unfold cellsOf
   rw[List.getElem?_map,List.getElem?_eq_getElem hj]
   rfl
  have hc:=Go.Lib.run_convert_whole (P:=Tryz.prog) w 86 5 9 Tryz.underlying86 Tryz.underlying5 Tryz.underlying9 g 0 (txt l) hb cap
  rw[txt_size,hl] at hc
  exact hc
theorem conv_row {w:World} {B n:Nat} {v:Value} {m:Int} {pre:List UInt8} {y:Int} (e:numB m=pre++[byte (y % 128)]) (h:w.ownsRow B 5 1 v n (cellsOf pre++[.int .u8 (y % 128)])):(convert 86 9 v).run Tryz.prog w=.ok (.string (txt (numB m))) w:=by
 rw[e]
 refine conv_own (B:=B) (n:=n) ?_
 rw[cellsOf_app]
 have hb:=byte_toNat (y % 128)
 have e2:cellsOf [byte (y % 128)]=[.int .u8 (y % 128)]:=by
  show [Value.int .u8 ((byte (y % 128)).toNat:Int)]=_
  rw[hb,show y % 128 % 256=y % 128 by omega]
 rw[e2]
 exact h
theorem fits7 (n:Int):Fits n 7=small n:=by
 unfold Fits small few
 simp
theorem fits32 (n:Int):Fits n 32=fits n:=by
 unfold Fits fits few
 simp
theorem or_128 (n:Int):bits .or .u8 (n % 256) 128=n % 128+128:=by
 have h:∀ k:Fin 256,bits .or .u8 ((k.val:Nat):Int) 128=(k.val:Int) % 128+128:=by decide +kernel
 have h1:=Int.emod_nonneg n (show (256:Int)≠0 by decide)
 have h2:=Int.emod_lt_of_pos n (show (0:Int)<256 by decide)
 have:=h ⟨(n % 256).toNat,by omega⟩
 dsimp only at this
 rw[Int.toNat_of_nonneg h1] at this
 rw[this]
 omega
theorem and_127 (n:Int):bits .and .u8 (n % 256) 127=n % 128:=by
 have h:∀ k:Fin 256,bits .and .u8 ((k.val:Nat):Int) 127=(k.val:Int) % 128:=by decide +kernel
 have h1:=Int.emod_nonneg n (show (256:Int)≠0 by decide)
 have h2:=Int.emod_lt_of_pos n (show (0:Int)<256 by decide)
 have:=h ⟨(n % 256).toNat,by omega⟩
 dsimp only at this
 rw[Int.toNat_of_nonneg h1] at this
 rw[this]
 omega
theorem rw_compact (n:Int) (w:World) (hn:fits n=true) :
  Calls Tryz.prog 169 #[.int .i64 n] w fun e w'=>e=.returned (.string (txt (numB n)))∧Below w.heap.size w w':=by
 have FT:=fun v (h1:-9223372036854775808≤v) (h2:v≤9223372036854775807) W=>zh (bits_fits v 7 W h1 h2)
 unfold fits at hn
 simp only[Bool.and_eq_true,decide_eq_true_eq] at hn
 obtain⟨hn1,hn2⟩:=hn
 obtain⟨i0,hi0,hz0,hz1,hz2⟩:=info_parts rw_u8_info
 have e5:numB n=numF 4 n:=numF_more 4 n (by simp only[wide7];omega) (by simp only[wide7];omega)
 have e5':=zh e5
 clear e5
 go_enter Tryz.func169,Tryz.ntmps169
 go_wp2_with fail
 go_loopw [0,3] (fun m b wr=>∃ (k:Nat) (y:Int) (pre:List UInt8),m=.int .i64 y∧k≤4∧pre.length=k∧wr.ownsRow w.heap.size 5 1 b k (cellsOf pre)∧Hid (numB n=pre++numF (4-k) y)∧-(64*wide7 (4-k))≤y∧y<64*wide7 (4-k)∧Below w.heap.size w wr) (fun m _ _=>(intOf m).natAbs)
 case atStart=>exact⟨0,n,[],rfl,by omega,rfl,World.ownsRow_nil _ _ _ _,zh (by simpa using e5'.out),by simp only[wide7];omega,by simp only[wide7];omega,Below.refl _ _⟩
 case round=>
  obtain⟨k,y,pre,rfl,hk,hpre,hown,hpr,hy1,hy2,hb⟩:=hrel
  have hpl:=wide7_pos (4-k)
  have hy64:-9223372036854775808≤y∧y≤9223372036854775807:=by
   have h4:∀ j,j≤4→wide7 j≤268435456:=by decide
   have:=h4 (4-k) (by omega)
   omega
  have FT1:=FT y hy64.1 hy64.2
  rw[fits7] at FT1
  cases hs:small y
  ·rw[hs] at FT1
   have hk4:k<4:=by
    rcases Nat.lt_or_ge k 4 with h | h
    ·exact h
    ·obtain rfl:k=4:=by omega
     have e1:wide7 (4-4)=1:=rfl
     rw[e1] at hy1 hy2
     unfold small at hs
     simp at hs
     omega
   have e1:4-k=(4-(k+1))+1:=by omega
   have hor:=or_128 y
   have hnext:=hpr.out
   rw[e1,numF,if_neg (by rw[hs];simp)] at hnext
   rw[e1] at hy1 hy2
   simp only[wide7] at hy1 hy2
   have hns:¬ (-64≤y∧y<64):=by
    unfold small at hs
    simp at hs
    omega
   have hnext:=zh hnext
   have hown':=zh hown
   obtain⟨A0,c0,rfl⟩:=own_slice hown
   clear hpr hown e1 hs
   go_wp2_with (first
    | (go_at_call 168;refine(FT1 _).out.mono ?_;rintro e w' ⟨rfl,rfl⟩)
    | (at_builtin;refine wpList_append_own _ rfl (.tmp 9) (.tmp 13) 86 rfl w.heap.size 5 i0 _ 1 1 Tryz.underlying86 hi0 hz0 hz1 hz2 rfl (by omega) _ k (cellsOf pre) rfl (hown'.out.alloc _) ⟨wr.heap.size,0,none⟩ 1 1 [.int .u8 (y % 128+128)] rfl rfl (news_one wr _ _) (by simp[Value.oneCell']) (by simp only[maxLen];omega) (by omega) (by simp;have:=hb.size;omega) ?_;intro v2 w2 hown2 hg2 _))
   have e2:cellsOf [byte (y % 128+128)]=[.int .u8 (y % 128+128)]:=by
    show [Value.int .u8 ((byte (y % 128+128)).toNat:Int)]=_
    rw[byte_toNat,show (y % 128+128) % 256=y % 128+128 by omega]
   refine⟨⟨k+1,y / 128,pre++[byte (y % 128+128)],rfl,by omega,by simp[hpre],by rw[cellsOf_app,e2];exact hown2,zh (by rw[hnext.out];simp),by omega,by omega,?_⟩,?_⟩
   ·exact(hb.alloc hb.size _).grown hg2 (by simp;have:=hb.size;omega) (fun q hq=>(hown'.out.lt q hq).1)
   ·simp only[intOf];omega
  ·rw[hs] at FT1
   have hfin:numB n=pre++[byte (y % 128)]:=by
    have:=hpr.out
    rcases Nat.lt_or_ge k 4 with h | h
    ·rw[show 4-k=(4-(k+1))+1 by omega,numF,if_pos hs] at this;exact this
    ·obtain rfl:k=4:=by omega
     exact this
   have hand:=and_127 y
   have hfin':=zh hfin
   clear hfin
   have hown':=zh hown
   obtain⟨A0,c0,rfl⟩:=own_slice hown
   clear hpr hown hs
   go_wp2_with (first
    | (go_at_call 168;refine(FT1 _).out.mono ?_;rintro e w' ⟨rfl,rfl⟩)
    | (at_builtin;refine wpList_append_own _ rfl (.tmp 15) (.tmp 19) 86 rfl w.heap.size 5 i0 _ 1 1 Tryz.underlying86 hi0 hz0 hz1 hz2 rfl (by omega) _ k (cellsOf pre) rfl (hown'.out.alloc _) ⟨wr.heap.size,0,none⟩ 1 1 [.int .u8 (y % 128)] rfl rfl (news_one wr _ _) (by simp[Value.oneCell']) (by simp only[maxLen];omega) (by omega) (by simp;have:=hb.size;omega) ?_;intro v2 w2 hown2 hg2 _;have hcv:=conv_row hfin'.out hown2))
   go_ret
   exact⟨rfl,(hb.alloc hb.size _).grown hg2 (by simp;have:=hb.size;omega) (fun q hq=>(hown'.out.lt q hq).1)⟩
theorem rw_num (B p:Nat) (acc:List UInt8) (x:Int) (sp:Bool) (w:World) (h:WrIs B w p acc sp) (hB:B≤w.heap.size) (hl:acc.length≤10000000) (hx:fits x=true) :
  Calls Tryz.prog 147 #[.pointer (some ⟨p,0,none⟩),.int .i64 x] w fun e w'=>e=.returned (.tuple #[])∧WrIs B w' p (acc++numB x) sp∧OkW B w w':=by
 have hx0:=hx
 unfold fits at hx0
 simp only[Bool.and_eq_true,decide_eq_true_eq] at hx0
 have FT:=fun W=>zh (bits_fits x 32 W (by omega) (by omega))
 rw[fits32,hx] at FT
 have CP:=zh (rw_compact x w hx)
 have hh:=zh h
 clear h hx
 have hlen:=numF_len 5 x
 have hlen:(numB x).length≤6:=hlen.2
 generalize numB x=l at *
 go_enter Tryz.func147,Tryz.ntmps147
 go_wp2_with fail
 refine(FT _).out.mono ?_
 rintro e w1 ⟨rfl,rfl⟩
 go_wp2_with fail
 refine CP.out.mono ?_
 rintro e w2 ⟨rfl,hb2⟩
 have P1:=zh (rw_put B p acc l sp w2 (hh.out.below hb2) (Nat.le_trans hB hb2.size) hl (by omega))
 have hb2:=zh hb2
 go_wp2_with fail
 refine P1.out.mono ?_
 rintro e w3 ⟨rfl,h3,hb3⟩
 go_wp2_with fail
 go_end0
 exact⟨rfl,h3,(OkW.of hb2.out hB).trans hb3⟩
theorem wordB_cells (x:Int) (hx:0≤x) (hx':x≤4294967295):cellsOf (wordB x)=[.int .u8 (x % 256),.int .u8 (x / 256 % 256),.int .u8 (x / 65536 % 256),.int .u8 (x / 16777216)]:=by
 show [Value.int .u8 ((byte x).toNat:Int),Value.int .u8 ((byte (x / 256)).toNat:Int),Value.int .u8 ((byte (x / 65536)).toNat:Int),Value.int .u8 ((byte (x / 16777216)).toNat:Int)]=_
 rw[byte_toNat,byte_toNat,byte_toNat,byte_toNat,show x / 16777216 % 256=x / 16777216 by omega]
theorem rw_word (B p:Nat) (acc:List UInt8) (x:Int) (sp:Bool) (w:World) (h:WrIs B w p acc sp) (hB:B≤w.heap.size) (hl:acc.length≤10000000) (hx:0≤x) (hx':x≤4294967295) :
  Calls Tryz.prog 146 #[.pointer (some ⟨p,0,none⟩),.int .u32 x] w fun e w'=>e=.returned (.tuple #[])∧WrIs B w' p (acc++wordB x) sp∧OkW B w w':=by
 have hcells:=wordB_cells x hx hx'
 have L:=Blk.new w 246 #[.int .u8 (x % 256),.int .u8 (x / 256 % 256),.int .u8 (x / 65536 % 256),.int .u8 (x / 16777216)]
 have hby:Go.Lib.Bytes (w.alloc (.cells #[.int .u8 (x % 256),.int .u8 (x / 256 % 256),.int .u8 (x / 65536 % 256),.int .u8 (x / 16777216)] 246)) w.heap.size 0 (txt (wordB x)):=fun j hj=>by
  rw[txt_size] at hj
  rw[Nat.zero_add,L.cell j,List.getElem?_toArray,← hcells]
  unfold cellsOf
  rw[List.getElem?_map,List.getElem?_eq_getElem hj]
  rfl
 have hconv:=Go.Lib.run_convert_whole (P:=Tryz.prog) _ 86 5 9 Tryz.underlying86 Tryz.underlying5 Tryz.underlying9 w.heap.size 0 (txt (wordB x)) hby 4
 have e4:(txt (wordB x)).size=4:=by rw[txt_size];rfl
 rw[e4] at hconv
 have P1:=zh (rw_put B p acc (wordB x) sp (w.alloc (.cells #[.int .u8 (x % 256),.int .u8 (x / 256 % 256),.int .u8 (x / 65536 % 256),.int .u8 (x / 16777216)] 246)) (h.below ((Below.refl _ _).alloc (Nat.le_refl _) _)) (by simp;omega) hl (by show 4≤_;omega))
 clear h hcells L hby e4
 generalize txt (wordB x)=tw at *
 generalize wordB x=wb at *
 go_enter Tryz.func146,Tryz.ntmps146
 go_wp2_with fail
 refine wp_loop_rounds 5 ?_
 rw[rounds_succ]
 go_wp2_with fail
 rw[rounds_succ]
 go_wp2_with fail
 rw[rounds_succ]
 go_wp2_with fail
 rw[rounds_succ]
 go_wp2_with fail
 rw[rounds_succ]
 go_wp2_with fail
 refine P1.out.mono ?_
 rintro e w2 ⟨rfl,h2,hb2⟩
 go_wp2_with fail
 go_end0
 exact⟨rfl,h2,(OkW.alloc B w hB _).trans hb2⟩
theorem rw_text (B p:Nat) (acc t:List UInt8) (sp:Bool) (w:World) (h:WrIs B w p acc sp) (hB:B≤w.heap.size) (hl:acc.length≤10000000) (ht:textOk t=true) :
  Calls Tryz.prog 145 #[.pointer (some ⟨p,0,none⟩),.string (txt t)] w fun e w'=>e=.returned (.tuple #[])∧WrIs B w' p (acc++textB t) sp∧OkW B w w':=by
 have ht0:=ht
 unfold textOk at ht0
 simp only[Bool.and_eq_true,decide_eq_true_eq,Bool.not_eq_true'] at ht0
 obtain⟨ht1,ht2⟩:=ht0
 have hs64:((txt t).size:Int)≤64:=by rw[txt_size];omega
 have IX:=fun W=>Tryz.strings_IndexByte (txt t) 0 W
 rw[txt_data] at IX
 have hix:Go.Lib.indexByte t (Int.toNat 0).toUInt8=-1:=by
  have:∀ l:List UInt8,l.contains 0=false→Go.Lib.indexByte l 0=-1:=fun l=>by
   induction l with
   | nil=>intro _;rfl
   | cons a l ih=>
    intro h
    simp only[List.contains_cons,Bool.or_eq_false_iff] at h
    have ha:(a==0)=false:=by
     rw[beq_eq_false_iff_ne] at h ⊢
     exact fun e=>h.1 e.symm
    rw[Go.Lib.indexByte,ha,ih h.2]
    rfl
  exact this t ht2
 rw[hix] at IX
 have IX':=fun W=>zh (IX W)
 have P1:=zh (rw_put B p acc (textB t) sp w h hB hl (by unfold textB;rw[List.length_append];simp;omega))
 have ecat:txt (textB t)=txt t++⟨#[0]⟩:=by
  apply ByteArray.ext
  apply Array.toList_inj.1
  simp[txt,textB]
 rw[ecat] at P1
 clear h IX hix ecat ht
 generalize txt t=ts at *
 go_enter Tryz.func145,Tryz.ntmps145
 go_wp2_with fail
 refine(IX' _).out.mono ?_
 rintro e w1 ⟨rfl,rfl⟩
 go_wp2_with fail
 refine P1.out.mono ?_
 rintro e w2 ⟨rfl,h2,hb2⟩
 go_wp2_with fail
 go_end0
 exact⟨rfl,h2,hb2⟩
theorem rw_bytes (B p:Nat) (acc:List UInt8) (w:World) (h:WrIs B w p acc false) :
  Calls Tryz.prog 149 #[.pointer (some ⟨p,0,none⟩)] w fun e w'=>e=.returned (if 131072<acc.length then .tuple #[.string (txt []),.int .i64 2] else .tuple #[.string (txt acc),.int .i64 0])∧w=w':=by
 obtain⟨h0,v,b,h1,h2,h3,h4⟩:=h
 have c0:=h1.cell 0
 have c1:=h1.cell 1
 have c2:=h1.cell 2
 simp only[gAr,gC0,gCs] at c0 c1 c2
 by_cases hlong:131072<acc.length
 ·rw[if_pos hlong]
  rw[decide_eq_true hlong] at c2
  clear h1 h2 h3 h4 hlong
  go_enter Tryz.func149,Tryz.ntmps149
  go_wp2_with fail
  go_ret2
  exact⟨rfl,rfl⟩
 ·rw[if_neg hlong]
  rw[decide_eq_false hlong] at c2
  obtain rfl:b=acc:=h3 (by omega)
  have hcv:=conv_own h2
  clear h1 h2 h3 h4 hlong
  go_enter Tryz.func149,Tryz.ntmps149
  go_wp2_with fail
  go_ret2
  exact⟨rfl,rfl⟩
end Go.Proofs.YtceflhffilldeaaGreat
