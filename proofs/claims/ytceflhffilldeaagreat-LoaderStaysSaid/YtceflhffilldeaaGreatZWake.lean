/-
  Joined: ZWake.
-/
import Derived.Test.YtceflhffilldeaaGreatZLwStores
import Derived.Test.YtceflhffilldeaaGreatZPlain
set_option linter.unusedVariables false
set_option linter.unusedSimpArgs false
set_option maxRecDepth 100000
set_option maxHeartbeats 16000000
namespace Go.Proofs.YtceflhffilldeaaGreat
open Go.RowKit Go.Maps Go.WideMaps Plays ObjL Ldr
def wkS:LS:=(LS.none_.mark [65]).done [65] plainOb
theorem wk_loads {G:Files} (hG:G ([65]++dotObj)=some (encO plainOb)):Ldr.load G 17 [65] LS.none_=.ok (1,wkS):=by
 rw[load_uses (o:=plainOb) rfl (by decide) hG dec_plain rfl]
 rfl
theorem wk_n:wkS.im.n=1:=rfl
theorem wk_ob:wkS.im.ob 0=plainOb:=rfl
theorem wk_end:wkS.im.end_=15:=by decide
theorem wk_code:(wkS.im.pl 0).code=14:=by decide
theorem wk_fill (D:DataW Unit):Fx.ferr [3338665999] (-1) 14 D=0∧Fx.flist [3338665999] (-1) 14 D=[3338665999]:=
 ferr_some (l:=[3338665999]) (by unfold Fx.fill Fx.chain;rw[if_pos rfl];rfl)
theorem wk_fillC:wkS.im.fillC 0 [3338665999] (-1)=.ok [3338665999]:=by
 unfold Im.fillC
 rw[wk_code,if_pos (wk_fill _).1,(wk_fill _).2]
theorem wk_words:wkS.im.code 0=.ok [3338665999]:=by
 rw[code_second (c:=[3338665999]) (by rw[wk_ob];exact wk_fillC),wk_ob]
 exact wk_fillC
theorem wk_ok:wkS.im.Ok:=⟨by decide,by decide,fun i hi=>by
  have:i=0:=by have h:i<1:=hi;omega
  subst this;exact plain_good,fun i hi u hu=>by
  have:i=0:=by have h:i<1:=hi;omega
  subst this;cases hu⟩
theorem wk_put:wkS.im.put 0 (wkS.im.words0 256)=.ok (copyAt (wkS.im.words0 256) 14 [3338665999]):=by
 have h:=put_done (m:=wkS.im) (i:=0) (ws:=wkS.im.words0 256) (w1:=wkS.im.words0 256) (c:=[3338665999]) rfl wk_words
 rw[wk_code] at h
 exact h
theorem wk_image:wkS.im.image 256 64=.ok ((((copyAt (wkS.im.words0 256) 14 [3338665999]).set 4 60).set 5 768).set 6 1024):=by
 have h:=image_done (m:=wkS.im) (W:=256) (S:=64) (ws:=copyAt (wkS.im.words0 256) 14 [3338665999]) (by rw[wk_end];decide) (by rw[wk_n];show steps wkS.im.put (wkS.im.words0 256) 1=_;rw[steps_succ (b:=wkS.im.words0 256) rfl];exact wk_put)
 rw[wk_end] at h
 exact h
theorem wk_load {G:Files} (hG:G ([65]++dotObj)=some (encO plainOb)):∃ m ws,ldLoad G [65] 256 64=.ok (m,ws)∧m.n=1∧(m.pl 0).code=14∧ws.length=256∧ws.getD 14 0=3338665999∧ws.getD 4 0=60:=by
 have hi:=wk_image
 have hl:(wkS.im.words0 256).length=256:=Im.words0_len wk_ok (by decide)
 refine⟨wkS.im,_,ldLoad_ok (by decide) (wk_loads hG) hi,wk_n,wk_code,?_,?_,?_⟩
 ·rw[List.length_set,List.length_set,List.length_set,copyAt_len _ _ _ (by rw[hl];decide),hl]
 ·rw[getD_set_eq,if_neg (fun c=>absurd c.1 (by decide)),getD_set_eq,if_neg (fun c=>absurd c.1 (by decide)),getD_set_eq,if_neg (fun c=>absurd c.1 (by decide)),copyAt_getD _ _ _ _ (by rw[hl];decide),if_pos (by decide)]
  rfl
 ·rw[getD_set_eq,if_neg (fun c=>absurd c.1 (by decide)),getD_set_eq,if_neg (fun c=>absurd c.1 (by decide)),getD_set_eq,if_pos ⟨rfl,by rw[copyAt_len _ _ _ (by rw[hl];decide),hl];decide⟩]
theorem wk_miss {G:Files} (hG:G ([66]++dotObj)=none):ldLoad G [66] 256 64=.error 251:=
 ldLoad_err (by decide) (load_miss rfl (by decide) hG)
theorem st_one (nm tx:BA) (h1:nameOk nm=true) (h2:tx.size≤131072):stN [(nm,tx)] 1=([nm],[tx]):=by
 show (putN [] [] nm tx).2=_
 unfold putN
 rw[if_neg (by rw[h1];decide),if_neg (by omega)]
 rfl
theorem got_one (nm tx:BA):gotN [nm] [tx] nm=(tx,true):=by
 have h:plc nm [nm]=(0,true):=by
  have:=(plc_mem nm [nm] (List.pairwise_singleton _ _)).2 (by simp)
  have h2:=(plc_there nm [nm] (List.pairwise_singleton _ _) this).1
  have h3:(plc nm [nm]).1=0:=by simp at h2;omega
  exact Prod.ext h3 this
 unfold gotN
 rw[h]
 rfl
theorem got_other (nm tx s:BA) (h:s≠nm):(gotN [nm] [tx] s).2=false:=by
 show (plc s [nm]).2=false
 cases hp:(plc s [nm]).2
 ·rfl
 ·have:=(plc_mem s [nm] (List.pairwise_singleton _ _)).1 hp
  simp at this
  exact absurd this h
def wkName:BA:=⟨#[65,46,79,98,106]⟩
theorem wk_nameOk:nameOk wkName=true:=by decide
theorem wkG:storeG (stN [(wkName,txt (encO plainOb))] 1).1 (stN [(wkName,txt (encO plainOb))] 1).2 ([65]++dotObj)=some (encO plainOb):=by
 rw[st_one _ _ wk_nameOk (by rw[txt_size,plain_len];decide)]
 unfold storeG
 rw[show txt ([65]++dotObj)=wkName from rfl]
 dsimp only
 rw[got_one,if_pos rfl,txt_data]
theorem wkG2:storeG (stN [(wkName,txt (encO plainOb))] 1).1 (stN [(wkName,txt (encO plainOb))] 1).2 ([66]++dotObj)=none:=by
 rw[st_one _ _ wk_nameOk (by rw[txt_size,plain_len];decide)]
 unfold storeG
 dsimp only
 rw[got_other _ _ _ (by decide),if_neg (by decide)]
end Go.Proofs.YtceflhffilldeaaGreat
namespace Go.Proofs.YtceflhffilldeaaGreat
open Go.RowKit Go.Maps Go.WideMaps Plays ObjL Ldr
theorem frow_one {w:World} {g:Nat} {t:TypeId} {a b:BA} (h:Blk w g t #[.string a,.string b]):FRow w (.slice (some ⟨g,0,none⟩) 1 1) [(a,b)]:=
 ⟨by simp,some ⟨g,0,none⟩,1,rfl,fun i hi=>⟨⟨g,0,none⟩,rfl,h.lt,fun j hj=>by
  have:i=0:=by simp at hi;omega
  subst this
  rcases (show j=0∨j=1 by omega) with rfl | rfl
  ·exact⟨_,h.cell 0,⟨fun _=>rfl,fun h=>absurd h (by decide)⟩⟩
  ·exact⟨_,h.cell 1,⟨fun h=>absurd h (by decide),fun _=>rfl⟩⟩⟩⟩
theorem wk_encode (vC vE:Value) (w:World) (hp:ObParts w plainOb nilS nilS vC vE) :
  Calls Tryz.prog 12 #[.agg (obCells plainOb nilS nilS vC vE)] w fun e w'=>e=.returned (.tuple #[.string (txt (encO plainOb)),.int .i64 0])∧Below w.heap.size w w':=by
 have:=ref23_encode plainOb nilS nilS vC vE w hp true (fun _=>good_wr plain_good) (fun W h=>by have:=ref23_good plainOb nilS nilS vC vE W h plain_fine;rw[plain_good] at this;exact this)
 rw[enc_plain] at this
 exact this
theorem wk_stores (w:World) (g:Nat) (t:TypeId) (h:Blk w g t #[.string wkName,.string (txt (encO plainOb))]) :
  Calls Tryz.prog 8 #[.slice (some ⟨g,0,none⟩) 1 1] w fun e w'=>∃ p q,e=.returned (.tuple #[.pointer (some ⟨p,0,none⟩),.pointer (some ⟨q,0,none⟩),.bool true])∧SideF w.heap.size w' p q [(wkName,txt (encO plainOb))] 1∧Below w.heap.size w w':=by
 have hn:wkName.size=5:=rfl
 have ht:(txt (encO plainOb)).size=24:=by rw[txt_size,plain_len]
 refine(law26_stores [(wkName,txt (encO plainOb))] _ w (frow_one h) (fun x hx=>by
  rw[List.mem_singleton.1 hx]
  exact⟨by show wkName.size≤_;rw[hn];decide,by show (txt (encO plainOb)).size≤_;rw[ht];decide⟩)).mono ?_
 rintro e w' ⟨p,q,k,ok,rfl,h1,h2,h3,h4⟩
 cases ok with
 | true=>
  have:=h3 rfl
  subst this
  exact⟨p,q,rfl,h1,h2⟩
 | false=>
  exfalso
  obtain⟨j,hj,hs⟩:=h4 rfl
  have:j=0:=by simp at hj;omega
  subst this
  have:sumF [(wkName,txt (encO plainOb))] 1=IntKind.i64.wrap (0+IntKind.i64.wrap (((txt (encO plainOb)).size:Int)+(wkName.size:Int))):=rfl
  rw[this,hn,ht] at hs
  revert hs
  decide
theorem wk_getOk {B p q:Nat} {W:World} (h:SideF B W p q [(wkName,txt (encO plainOb))] 1):GetOk (storeG (stN [(wkName,txt (encO plainOb))] 1).1 (stN [(wkName,txt (encO plainOb))] 1).2) W.heap.size p W:=by
 obtain⟨m,n,v,u,h1,-⟩:=h
 exact getOk_of h1 (st_rel _ _).1 (st_rel _ _).2
theorem SideF.below {B p q k:Nat} {W W':World} {l:List (BA×BA)} (h:SideF B W p q l k) (hb:Below W.heap.size W W'):SideF B W' p q l k:=by
 obtain⟨m,n,v,u,h1,h2⟩:=h
 exact⟨m,n,v,u,h1.below hb,h2⟩
def WkImg (e:Ending) (w w':World):Prop:=
 ∃ gw gm cm,e=.returned (.tuple #[.agg #[.slice (some ⟨gw,0,none⟩) 256 256,.int .i64 8,.slice (some ⟨gm,0,none⟩) 1 cm],.int .i64 0])∧gw<w'.heap.size∧gm<w'.heap.size∧w'.cell? ⟨gw,14,none⟩=some (.int .u32 3338665999)∧w'.cell? ⟨gw,4,none⟩=some (.int .u32 60)∧w'.cell? ⟨gm,5,none⟩=some (.int .i64 14)∧Below w.heap.size w w'
theorem wk_loadA {B p q:Nat} (W:World) (h:SideF B W p q [(wkName,txt (encO plainOb))] 1) :
  Calls Tryz.prog 10 #[.pointer (some ⟨p,0,none⟩),.string ⟨#[65]⟩,.agg #[.int .i64 256,.int .i64 64]] W fun e w'=>WkImg e W w':=by
 obtain⟨m,ws,h1,h2,h3,h4,h5,h6⟩:=wk_load wkG
 refine(load_ok _ p W (wk_getOk h) [65] (by decide) 256 64).mono ?_
 rintro e w' ⟨ha,hb⟩
 rw[h1] at ha
 obtain⟨gw,gm,cm,rfl,hw,hm,-⟩:=ha
 refine⟨gw,gm,cm,?_,hw.lt,hm.lt,?_,?_,?_,hb⟩
 ·rw[h4,h2];rfl
 ·rw[hw.cell 14 (by rw[h4];decide),h5]
 ·rw[hw.cell 4 (by rw[h4];decide),h6]
 ·have:=hm.range (i:=0) (by rw[h2];decide) 5 (.int .i64 (m.pl 0).code) rfl
  rw[h3] at this
  exact this
theorem wk_loadB {B p q:Nat} (W:World) (h:SideF B W p q [(wkName,txt (encO plainOb))] 1) :
  Calls Tryz.prog 10 #[.pointer (some ⟨p,0,none⟩),.string ⟨#[66]⟩,.agg #[.int .i64 256,.int .i64 64]] W fun e w'=>e=.returned (.tuple #[.agg #[.slice none 0 0,.int .i64 0,.slice none 0 0],.int .i64 251])∧Below W.heap.size W w':=by
 refine(load_ok _ p W (wk_getOk h) [66] (by decide) 256 64).mono ?_
 rintro e w' ⟨ha,hb⟩
 rw[wk_miss wkG2] at ha
 exact⟨ha,hb⟩
theorem law26_wakes (w:World):Calls Tryz.prog 9 #[] w fun e w'=>e=.returned (.bool true)∧Below w.heap.size w w':=by
 go_enter Tryz.func9,Tryz.ntmps9
 go_wp2_with fail
 refine(law23_plain _).mono ?_
 rintro e w1 ⟨vC,vE,rfl,hP,hb1⟩
 have hP:=zh hP
 have hB1:=zh hb1
 clear hb1
 go_wp2_with fail
 refine(wk_encode vC vE w1 hP.out).mono ?_
 rintro e w2 ⟨rfl,hb2⟩
 have hB2:=zh (hB1.out.trans (hb2.mono hB1.out.size))
 clear hb2 hB1 hP
 have hFb:=zh (Blk.new w2 56 #[.string wkName,.string (txt (encO plainOb))])
 have hB3:=zh (hB2.out.alloc hB2.out.size (.cells #[.string wkName,.string (txt (encO plainOb))] 56))
 have ST:=zh (wk_stores (w2.alloc (.cells #[.string wkName,.string (txt (encO plainOb))] 56)) w2.heap.size 56 hFb.out)
 have hwk:wkName=(⟨#[65,46,79,98,106]⟩:ByteArray):=rfl
 rw[hwk] at ST hB3
 clear hFb hwk
 go_wp2_with fail
 refine ST.out.mono ?_
 rintro e w4 ⟨p,q,rfl,hS4,hb4⟩
 have hB4:=zh (hB3.out.trans (hb4.mono hB3.out.size))
 have hS4:=zh hS4
 clear ST hB3 hb4 hB2
 go_wp2_with fail
 refine(wk_loadA w4 hS4.out).mono ?_
 rintro e w5 ⟨gw,gm,cm,rfl,hgw,hgm,x14,x4,x5,hb5⟩
 have hB5:=zh (hB4.out.trans (hb5.mono hB4.out.size))
 have hS5:=zh (hS4.out.below hb5)
 have hI6:=zh (Blk.new w5 imT #[.slice (some ⟨gw,0,none⟩) 256 256,.int .i64 8,.slice (some ⟨gm,0,none⟩) 1 cm])
 have hB6:=zh (hB5.out.alloc hB5.out.size (.cells #[.slice (some ⟨gw,0,none⟩) 256 256,.int .i64 8,.slice (some ⟨gm,0,none⟩) 1 cm] imT))
 have hS6:=zh (hS5.out.below ((Below.refl w5.heap.size w5).alloc (Nat.le_refl _) (.cells #[.slice (some ⟨gw,0,none⟩) 256 256,.int .i64 8,.slice (some ⟨gm,0,none⟩) 1 cm] imT)))
 have hX6:Hid ((w5.alloc (.cells #[.slice (some ⟨gw,0,none⟩) 256 256,.int .i64 8,.slice (some ⟨gm,0,none⟩) 1 cm] imT)).cell? ⟨gw,14,none⟩=some (.int .u32 3338665999)∧(w5.alloc (.cells #[.slice (some ⟨gw,0,none⟩) 256 256,.int .i64 8,.slice (some ⟨gm,0,none⟩) 1 cm] imT)).cell? ⟨gw,4,none⟩=some (.int .u32 60)∧(w5.alloc (.cells #[.slice (some ⟨gw,0,none⟩) 256 256,.int .i64 8,.slice (some ⟨gm,0,none⟩) 1 cm] imT)).cell? ⟨gm,5,none⟩=some (.int .i64 14)):=zh ⟨(World.cell?_alloc_lt w5 _ _ hgw).trans x14,(World.cell?_alloc_lt w5 _ _ hgw).trans x4,(World.cell?_alloc_lt w5 _ _ hgm).trans x5⟩
 have hL6:Hid (gw<(w5.alloc (.cells #[.slice (some ⟨gw,0,none⟩) 256 256,.int .i64 8,.slice (some ⟨gm,0,none⟩) 1 cm] imT)).heap.size∧gm<(w5.alloc (.cells #[.slice (some ⟨gw,0,none⟩) 256 256,.int .i64 8,.slice (some ⟨gm,0,none⟩) 1 cm] imT)).heap.size):=zh (by simp;omega)
 clear hb5 hB4 hS4 hB5 hS5 x14 x4 x5 hgw hgm
 go_upto_region 4 with fail
 generalize w5.alloc _=w6 at *
 generalize w5.heap.size=g6 at *
 go_wp2_with fail
 refine(wk_loadB w6 hS6.out).mono ?_
 rintro e w7 ⟨rfl,hb7⟩
 have hB7:=zh ((hB6.out.trans (hb7.mono hB6.out.size)).alloc (Nat.le_trans hB6.out.size hb7.size) (.cells #[.slice none 0 0,.int .i64 0,.slice none 0 0] imT))
 have hb8:=hb7.alloc hb7.size (.cells #[.slice none 0 0,.int .i64 0,.slice none 0 0] imT)
 have hI8:=zh (hI6.out.below hb8 hI6.out.lt)
 have hX8:Hid ((w7.alloc (.cells #[.slice none 0 0,.int .i64 0,.slice none 0 0] imT)).cell? ⟨gw,14,none⟩=some (.int .u32 3338665999)∧(w7.alloc (.cells #[.slice none 0 0,.int .i64 0,.slice none 0 0] imT)).cell? ⟨gw,4,none⟩=some (.int .u32 60)∧(w7.alloc (.cells #[.slice none 0 0,.int .i64 0,.slice none 0 0] imT)).cell? ⟨gm,5,none⟩=some (.int .i64 14)):=zh ⟨(hb8.cell (p:=⟨gw,14,none⟩) hL6.out.1).trans hX6.out.1,(hb8.cell (p:=⟨gw,4,none⟩) hL6.out.1).trans hX6.out.2.1,(hb8.cell (p:=⟨gm,5,none⟩) hL6.out.2).trans hX6.out.2.2⟩
 have hL8:Hid (gw<(w7.alloc (.cells #[.slice none 0 0,.int .i64 0,.slice none 0 0] imT)).heap.size∧gm<(w7.alloc (.cells #[.slice none 0 0,.int .i64 0,.slice none 0 0] imT)).heap.size∧g6<(w7.alloc (.cells #[.slice none 0 0,.int .i64 0,.slice none 0 0] imT)).heap.size):=zh ⟨Nat.lt_of_lt_of_le hL6.out.1 hb8.size,Nat.lt_of_lt_of_le hL6.out.2 hb8.size,Nat.lt_of_lt_of_le hI6.out.lt hb8.size⟩
 clear hB6 hS6 hI6 hX6 hL6 hb7 hb8
 go_upto_region 5 with fail
 generalize w7.alloc _=w8 at *
 have HS:Hid (∀ W',Below w8.heap.size w8 W'→W'.cell? ⟨g6,0,none⟩=some (.slice (some ⟨gw,0,none⟩) 256 256)∧W'.cell? ⟨g6,1,none⟩=some (.int .i64 8)∧W'.cell? ⟨g6,2,none⟩=some (.slice (some ⟨gm,0,none⟩) 1 cm)∧W'.cell? ⟨gw,14,none⟩=some (.int .u32 3338665999)∧W'.cell? ⟨gw,4,none⟩=some (.int .u32 60)∧W'.cell? ⟨gm,5,none⟩=some (.int .i64 14)):=zh fun W' hb=>⟨(hb.cell (p:=⟨g6,0,none⟩) hL8.out.2.2).trans (hI8.out.cell 0),(hb.cell (p:=⟨g6,1,none⟩) hL8.out.2.2).trans (hI8.out.cell 1),(hb.cell (p:=⟨g6,2,none⟩) hL8.out.2.2).trans (hI8.out.cell 2),(hb.cell (p:=⟨gw,14,none⟩) hL8.out.1).trans hX8.out.1,(hb.cell (p:=⟨gw,4,none⟩) hL8.out.1).trans hX8.out.2.1,(hb.cell (p:=⟨gm,5,none⟩) hL8.out.2.1).trans hX8.out.2.2⟩
 refine wp_region_F (fun w'=>w'.cell? ⟨g6,0,none⟩=some (.slice (some ⟨gw,0,none⟩) 256 256)∧w'.cell? ⟨g6,1,none⟩=some (.int .i64 8)∧w'.cell? ⟨g6,2,none⟩=some (.slice (some ⟨gm,0,none⟩) 1 cm)∧w'.cell? ⟨gw,14,none⟩=some (.int .u32 3338665999)∧w'.cell? ⟨gw,4,none⟩=some (.int .u32 60)∧w'.cell? ⟨gm,5,none⟩=some (.int .i64 14)) 56 (by kernel_rfl) ?_
 have S0:=HS.out w8.drew (Below.refl w8.heap.size w8).drew
 refine hfTake 0 (v:=?_) ?_ S0 ?_
 rotate_left
 ·(intro _ h;obtain⟨_,_,_,_,_,_⟩:=h;go_simp<;>with_reducible rfl)
 try simp only[Act.put,sAp,sA0,sAs]
 refine hfTake 1 (v:=?_) ?_ S0 ?_
 rotate_left
 ·(intro _ h;obtain⟨_,_,_,_,_,_⟩:=h;go_simp<;>with_reducible rfl)
 try simp only[Act.put,sAp,sA0,sAs]
 refine hfTake 2 (v:=?_) ?_ S0 ?_
 rotate_left
 ·(intro _ h;obtain⟨_,_,_,_,_,_⟩:=h;go_simp<;>with_reducible rfl)
 try simp only[Act.put,sAp,sA0,sAs]
 refine hfTake 3 (v:=?_) ?_ S0 ?_
 rotate_left
 ·(intro _ h;obtain⟨_,_,_,_,_,_⟩:=h;go_simp<;>with_reducible rfl)
 try simp only[Act.put,sAp,sA0,sAs]
 refine hfTake 4 (v:=?_) ?_ S0 ?_
 rotate_left
 ·(intro _ h;obtain⟨_,_,_,_,_,_⟩:=h;go_simp<;>with_reducible rfl)
 try simp only[Act.put,sAp,sA0,sAs]
 refine hfTake 5 (v:=?_) ?_ S0 ?_
 rotate_left
 ·(intro _ h;obtain⟨_,_,_,_,_,_⟩:=h;go_simp<;>with_reducible rfl)
 try simp only[Act.put,sAp,sA0,sAs]
 refine hfTake 6 (v:=?_) ?_ S0 ?_
 rotate_left
 ·(intro _ h;obtain⟨_,_,_,_,_,_⟩:=h;go_simp<;>with_reducible rfl)
 try simp only[Act.put,sAp,sA0,sAs]
 refine hfTake 7 (v:=?_) ?_ S0 ?_
 rotate_left
 ·(intro _ h;obtain⟨_,_,_,_,_,_⟩:=h;go_simp<;>with_reducible rfl)
 try simp only[Act.put,sAp,sA0,sAs]
 refine hfTake 8 (v:=?_) ?_ S0 ?_
 rotate_left
 ·(intro _ h;obtain⟨_,_,_,_,_,_⟩:=h;go_simp<;>with_reducible rfl)
 try simp only[Act.put,sAp,sA0,sAs]
 refine hfTake 9 (v:=?_) ?_ S0 ?_
 rotate_left
 ·(intro _ h;obtain⟨_,_,_,_,_,_⟩:=h;go_simp<;>with_reducible rfl)
 try simp only[Act.put,sAp,sA0,sAs]
 refine hfTake 10 (v:=?_) ?_ S0 ?_
 rotate_left
 ·(intro _ h;obtain⟨_,_,_,_,_,_⟩:=h;go_simp<;>with_reducible rfl)
 try simp only[Act.put,sAp,sA0,sAs]
 refine hfTake 11 (v:=?_) ?_ S0 ?_
 rotate_left
 ·(intro _ h;obtain⟨_,_,_,_,_,_⟩:=h;go_simp<;>with_reducible rfl)
 try simp only[Act.put,sAp,sA0,sAs]
 refine hfTake 12 (v:=?_) ?_ S0 ?_
 rotate_left
 ·(intro _ h;obtain⟨_,_,_,_,_,_⟩:=h;go_simp<;>with_reducible rfl)
 try simp only[Act.put,sAp,sA0,sAs]
 refine hfTake 13 (v:=?_) ?_ S0 ?_
 rotate_left
 ·(intro _ h;obtain⟨_,_,_,_,_,_⟩:=h;go_simp<;>with_reducible rfl)
 try simp only[Act.put,sAp,sA0,sAs]
 refine hfTake 14 (v:=?_) ?_ S0 ?_
 rotate_left
 ·(intro _ h;obtain⟨_,_,_,_,_,_⟩:=h;go_simp<;>with_reducible rfl)
 try simp only[Act.put,sAp,sA0,sAs]
 refine hfTake 15 (v:=?_) ?_ S0 ?_
 rotate_left
 ·(intro _ h;obtain⟨_,_,_,_,_,_⟩:=h;go_simp<;>with_reducible rfl)
 try simp only[Act.put,sAp,sA0,sAs]
 refine hfTake 16 (v:=?_) ?_ S0 ?_
 rotate_left
 ·(intro _ h;obtain⟨_,_,_,_,_,_⟩:=h;go_simp<;>with_reducible rfl)
 try simp only[Act.put,sAp,sA0,sAs]
 refine hfTake 17 (v:=?_) ?_ S0 ?_
 rotate_left
 ·(intro _ h;obtain⟨_,_,_,_,_,_⟩:=h;go_simp<;>with_reducible rfl)
 try simp only[Act.put,sAp,sA0,sAs]
 refine hfTake 18 (v:=?_) ?_ S0 ?_
 rotate_left
 ·(intro _ h;obtain⟨_,_,_,_,_,_⟩:=h;go_simp<;>with_reducible rfl)
 try simp only[Act.put,sAp,sA0,sAs]
 refine hfTake 19 (v:=?_) ?_ S0 ?_
 rotate_left
 ·(intro _ h;obtain⟨_,_,_,_,_,_⟩:=h;go_simp<;>with_reducible rfl)
 try simp only[Act.put,sAp,sA0,sAs]
 refine hfTake 20 (v:=?_) ?_ S0 ?_
 rotate_left
 ·(intro _ h;obtain⟨_,_,_,_,_,_⟩:=h;go_simp<;>with_reducible rfl)
 try simp only[Act.put,sAp,sA0,sAs]
 refine hfTake 21 (v:=?_) ?_ S0 ?_
 rotate_left
 ·(intro _ h;obtain⟨_,_,_,_,_,_⟩:=h;go_simp<;>with_reducible rfl)
 try simp only[Act.put,sAp,sA0,sAs]
 refine hfTake 22 (v:=?_) ?_ S0 ?_
 rotate_left
 ·(intro _ h;obtain⟨_,_,_,_,_,_⟩:=h;go_simp<;>with_reducible rfl)
 try simp only[Act.put,sAp,sA0,sAs]
 refine hfTake 23 (v:=?_) ?_ S0 ?_
 rotate_left
 ·(intro _ h;obtain⟨_,_,_,_,_,_⟩:=h;go_simp<;>with_reducible rfl)
 try simp only[Act.put,sAp,sA0,sAs]
 refine hfTake 24 (v:=?_) ?_ S0 ?_
 rotate_left
 ·(intro _ h;obtain⟨_,_,_,_,_,_⟩:=h;go_simp<;>with_reducible rfl)
 try simp only[Act.put,sAp,sA0,sAs]
 refine hfTake 25 (v:=?_) ?_ S0 ?_
 rotate_left
 ·(intro _ h;obtain⟨_,_,_,_,_,_⟩:=h;go_simp<;>with_reducible rfl)
 try simp only[Act.put,sAp,sA0,sAs]
 refine hfTake 26 (v:=?_) ?_ S0 ?_
 rotate_left
 ·(intro _ h;obtain⟨_,_,_,_,_,_⟩:=h;go_simp<;>with_reducible rfl)
 try simp only[Act.put,sAp,sA0,sAs]
 refine hfTake 27 (v:=?_) ?_ S0 ?_
 rotate_left
 ·(intro _ h;obtain⟨_,_,_,_,_,_⟩:=h;go_simp<;>with_reducible rfl)
 try simp only[Act.put,sAp,sA0,sAs]
 refine hfTake 28 (v:=?_) ?_ S0 ?_
 rotate_left
 ·(intro _ h;obtain⟨_,_,_,_,_,_⟩:=h;go_simp<;>with_reducible rfl)
 try simp only[Act.put,sAp,sA0,sAs]
 refine hfTake 29 (v:=?_) ?_ S0 ?_
 rotate_left
 ·(intro _ h;obtain⟨_,_,_,_,_,_⟩:=h;go_simp<;>with_reducible rfl)
 try simp only[Act.put,sAp,sA0,sAs]
 refine hfTake 30 (v:=?_) ?_ S0 ?_
 rotate_left
 ·(intro _ h;obtain⟨_,_,_,_,_,_⟩:=h;go_simp<;>with_reducible rfl)
 try simp only[Act.put,sAp,sA0,sAs]
 refine hfTake 31 (v:=?_) ?_ S0 ?_
 rotate_left
 ·(intro _ h;obtain⟨_,_,_,_,_,_⟩:=h;go_simp<;>with_reducible rfl)
 try simp only[Act.put,sAp,sA0,sAs]
 refine hfTake 32 (v:=?_) ?_ S0 ?_
 rotate_left
 ·(intro _ h;obtain⟨_,_,_,_,_,_⟩:=h;go_simp<;>with_reducible rfl)
 try simp only[Act.put,sAp,sA0,sAs]
 refine hfTake 33 (v:=?_) ?_ S0 ?_
 rotate_left
 ·(intro _ h;obtain⟨_,_,_,_,_,_⟩:=h;go_simp<;>with_reducible rfl)
 try simp only[Act.put,sAp,sA0,sAs]
 refine hfTake 34 (v:=?_) ?_ S0 ?_
 rotate_left
 ·(intro _ h;obtain⟨_,_,_,_,_,_⟩:=h;go_simp<;>with_reducible rfl)
 try simp only[Act.put,sAp,sA0,sAs]
 refine hfTake 35 (v:=?_) ?_ S0 ?_
 rotate_left
 ·(intro _ h;obtain⟨_,_,_,_,_,_⟩:=h;go_simp<;>with_reducible rfl)
 try simp only[Act.put,sAp,sA0,sAs]
 refine hfTake 36 (v:=?_) ?_ S0 ?_
 rotate_left
 ·(intro _ h;obtain⟨_,_,_,_,_,_⟩:=h;go_simp<;>with_reducible rfl)
 try simp only[Act.put,sAp,sA0,sAs]
 refine hfTake 37 (v:=?_) ?_ S0 ?_
 rotate_left
 ·(intro _ h;obtain⟨_,_,_,_,_,_⟩:=h;go_simp<;>with_reducible rfl)
 try simp only[Act.put,sAp,sA0,sAs]
 refine hfTake 38 (v:=?_) ?_ S0 ?_
 rotate_left
 ·(intro _ h;obtain⟨_,_,_,_,_,_⟩:=h;go_simp<;>with_reducible rfl)
 try simp only[Act.put,sAp,sA0,sAs]
 refine hfTake 39 (v:=?_) ?_ S0 ?_
 rotate_left
 ·(intro _ h;obtain⟨_,_,_,_,_,_⟩:=h;go_simp<;>with_reducible rfl)
 try simp only[Act.put,sAp,sA0,sAs]
 refine hfTake 40 (v:=?_) ?_ S0 ?_
 rotate_left
 ·(intro _ h;obtain⟨_,_,_,_,_,_⟩:=h;go_simp<;>with_reducible rfl)
 try simp only[Act.put,sAp,sA0,sAs]
 refine hfTake 41 (v:=?_) ?_ S0 ?_
 rotate_left
 ·(intro _ h;obtain⟨_,_,_,_,_,_⟩:=h;go_simp<;>with_reducible rfl)
 try simp only[Act.put,sAp,sA0,sAs]
 refine hfTake 42 (v:=?_) ?_ S0 ?_
 rotate_left
 ·(intro _ h;obtain⟨_,_,_,_,_,_⟩:=h;go_simp<;>with_reducible rfl)
 try simp only[Act.put,sAp,sA0,sAs]
 refine hfRdy 43 (by kernel_rfl) rfl fun K hK=>?_
 go_simp
 refine(law23_plain _).mono ?_
 rintro e w9 ⟨vC2,vE2,rfl,hP9,hb9⟩
 have hB9:=zh ((hB7.out.drew).trans (hb9.mono hB7.out.size))
 have S9:=HS.out w9 ((Below.refl w8.heap.size w8).drew.trans hb9)
 obtain⟨-,AC,cC,hvC,hcC⟩:=hP9.code
 have hcC:=hcC 0 (by decide)
 obtain⟨ad,hAC,-,hcell⟩:=hcC
 subst hAC
 have hvC2:vC2=.slice (some ad) 1 cC:=hvC
 clear hvC
 subst hvC2
 have hcell2:w9.cell? (ad.add 0)=some (.int .u32 3338665999):=hcell
 have had0:ad.add 0=ad:=by unfold Addr.add;split<;>simp_all
 rw[had0] at hcell2
 refine hK.out _ _ (fun _=>S9) ?_
 clear hK K S0 hP9 hb9 hcell had0
 unfold obCells
 try simp only[Act.put,sAp,sA0,sAs]
 obtain⟨hSa,hSb,hSc,hSd,hSe,hSf⟩:=id S9
 refine hfRdy 44 (by kernel_rfl) rfl fun K hK=>?_
 go_simp
 refine hK.out _ _ (fun _=>S9) ?_
 clear hK K
 try simp only[Act.put,sAp,sA0,sAs]
 refine hfRdy 45 (by kernel_rfl) rfl fun K hK=>?_
 go_simp
 refine hK.out _ _ (fun _=>S9) ?_
 clear hK K
 try simp only[Act.put,sAp,sA0,sAs]
 refine hfRdy 46 (by kernel_rfl) rfl fun K hK=>?_
 go_simp
 refine hK.out _ _ (fun _=>S9) ?_
 clear hK K
 try simp only[Act.put,sAp,sA0,sAs]
 refine hfRdy 47 (by kernel_rfl) rfl fun K hK=>?_
 go_simp
 refine hK.out _ _ (fun _=>S9) ?_
 clear hK K
 try simp only[Act.put,sAp,sA0,sAs]
 refine hfRdy 48 (by kernel_rfl) rfl fun K hK=>?_
 go_simp
 refine hK.out _ _ (fun _=>S9) ?_
 clear hK K
 try simp only[Act.put,sAp,sA0,sAs]
 refine hfRdy 49 (by kernel_rfl) rfl fun K hK=>?_
 go_simp
 refine hK.out _ _ (fun _=>S9) ?_
 clear hK K
 try simp only[Act.put,sAp,sA0,sAs]
 refine hfRdy 50 (by kernel_rfl) rfl fun K hK=>?_
 go_simp
 refine hK.out _ _ (fun _=>S9) ?_
 clear hK K
 try simp only[Act.put,sAp,sA0,sAs]
 refine hfRdy 51 (by kernel_rfl) rfl fun K hK=>?_
 go_simp
 refine hK.out _ _ (fun _=>S9) ?_
 clear hK K
 try simp only[Act.put,sAp,sA0,sAs]
 refine hfRdy 52 (by kernel_rfl) rfl fun K hK=>?_
 go_simp
 refine hK.out _ _ (fun _=>S9) ?_
 clear hK K
 try simp only[Act.put,sAp,sA0,sAs]
 refine hfRdy 53 (by kernel_rfl) rfl fun K hK=>?_
 go_simp
 refine hK.out _ _ (fun _=>S9) ?_
 clear hK K
 try simp only[Act.put,sAp,sA0,sAs]
 refine hfRdy 54 (by kernel_rfl) rfl fun K hK=>?_
 go_simp
 refine hK.out _ _ (fun _=>S9) ?_
 clear hK K
 try simp only[Act.put,sAp,sA0,sAs]
 refine hfRdy 55 (by kernel_rfl) rfl fun K hK=>?_
 go_simp
 refine hK.out _ _ (fun _=>S9) ?_
 clear hK K
 try simp only[Act.put,sAp,sA0,sAs]
 refine hfRdy 56 (by kernel_rfl) rfl fun K hK=>?_
 go_simp
 refine hK.out _ _ (fun h=>absurd rfl h) ?_
 clear hK K
 try simp only[Act.put,sAp,sA0,sAs]
 refine wpAnyF_done (by kernel_rfl) ?_ _
 go_wp2_with fail
 go_ret
 exact⟨rfl,hB9.out⟩
end Go.Proofs.YtceflhffilldeaaGreat
