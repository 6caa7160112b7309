/-
  Joined: ZStays.
-/
import Derived.Test.YtceflhffilldeaaGreatZGot
import Derived.Test.YtceflhffilldeaaGreatZSame
set_option linter.unusedVariables false
set_option linter.unusedSimpArgs false
set_option maxRecDepth 100000
set_option maxHeartbeats 16000000
namespace Go.Proofs.YtceflhffilldeaaGreat
open Go.RowKit Go.Maps Go.WideMaps Plays ObjL Ldr
theorem load_congr {G G':Files} (h:∀ nm,G (nm++dotObj)=G' (nm++dotObj)):∀ f,Ldr.load G f=Ldr.load G' f
 | 0=>by funext nm s;rw[Ldr.load,Ldr.load]
 | f+1=>by funext nm s;rw[Ldr.load,Ldr.load,h nm,load_congr h f]
theorem ldLoad_congr {G G':Files} (h:∀ nm,G (nm++dotObj)=G' (nm++dotObj)) (nm:List UInt8) (W S:Int):ldLoad G nm W S=ldLoad G' nm W S:=by
 unfold ldLoad
 rw[load_congr h 17]
theorem obj_part (nm:List UInt8):(txt (nm++dotObj)).extract ((txt (nm++dotObj)).size-4) (txt (nm++dotObj)).size=⟨#[46,79,98,106]⟩:=by
 have hs:(txt (nm++dotObj)).size=nm.length+4:=by rw[txt_size,List.length_append];rfl
 rw[hs]
 apply ByteArray.ext
 rw[ByteArray.data_extract]
 apply Array.toList_inj.1
 simp[txt,List.extract_eq_take_drop,dotObj]
theorem both_putK {B p q n:Nat} {W:World} {m v u:Value} {D:DataW Unit} {N T:List BA} (h:Both B W p q m n D v u N T) (s t:BA) (hs:s.size≤9223372036854775807) (hn:n<100000) :
  Calls Tryz.prog 20 #[.pointer (some ⟨p,0,none⟩),.string s,.string t] W fun e w'=>e=.returned (.int .i64 (putD D s t).1)∧∃ m' n',Blk w' p 101 #[m']∧MapIs w' m' n' (putD D s t).2∧Kept (fun k=>k<W.heap.size∧k≠p∧mapBlock m≠some k) W w':=by
 have still:∀ {w':World},Below W.heap.size W w'→∃ m' n',Blk w' p 101 #[m']∧MapIs w' m' n' D∧Kept (fun k=>k<W.heap.size∧k≠p∧mapBlock m≠some k) W w':=fun hb=>
  ⟨m,n,h.blk.below hb h.blk.lt,(h.below hb).map,(Kept.refl _ W).below hb fun k hk=>hk.1⟩
 unfold putD
 by_cases h1:nameOk s=false
 ·rw[if_pos h1]
  refine(store_put_bad s t _ W hs h1).mono ?_
  rintro e w' ⟨rfl,hb⟩
  exact⟨rfl,still hb⟩
 ·rw[if_neg h1]
  have h1':nameOk s=true:=by simpa using h1
  by_cases h2:131072<(t.size:Int)
  ·rw[if_pos h2]
   refine(store_put_long s t _ W hs h1' h2).mono ?_
   rintro e w' ⟨rfl,hb⟩
   exact⟨rfl,still hb⟩
  ·rw[if_neg h2]
   by_cases h3:has D (fkey s)=false∧Maps.size D=64
   ·rw[if_pos h3]
    refine(store_put_full s t p n m D W hs h.blk h.map h1' (by omega) h3.1 h3.2).mono ?_
    rintro e w' ⟨rfl,hb⟩
    exact⟨rfl,still hb⟩
   ·rw[if_neg h3]
    rcases h.map with ⟨rfl,rfl⟩ | ⟨b,rfl,hown⟩
    ·refine(store_put_nil s t p W hs h.blk h1' (by omega)).mono ?_
     rintro e w' ⟨rfl,b,hb1,hb2,hb3,hk⟩
     exact⟨rfl,_,_,hb1,Or.inr ⟨b,rfl,hb2⟩,hk.mono fun k hk=>⟨hk.1,hk.2.1⟩⟩
    ·have hne:=map_ne_blk h.map h.blk
     refine(store_put_some s t p n b D W hs (h.blk.cell 0) hown h1' (by omega) (by
      cases hc:has D (fkey s)
      ·exact Or.inr (fun e=>h3 ⟨hc,e⟩)
      ·exact Or.inl rfl) (by simp only[maxLen];omega)).mono ?_
     rintro e w' ⟨rfl,ho,hk⟩
     exact⟨rfl,.map (some b),_,h.blk.kept hk ⟨h.blk.lt,fun e=>hne (by rw[e];rfl)⟩,Or.inr ⟨b,rfl,ho⟩,hk.mono fun k hk=>⟨hk.1,fun e=>hk.2.2 (by rw[e];rfl)⟩⟩
theorem both_getK {B p q n:Nat} {W:World} {m v u:Value} {D:DataW Unit} {N T:List BA} (h:Both B W p q m n D v u N T) (hr:Rel D N T) (s:BA) (hs:s.size≤9223372036854775807) :
  Calls Tryz.prog 18 #[.pointer (some ⟨p,0,none⟩),.string s] W fun e w'=>e=.returned (.tuple #[.string (gotN N T s).1,.bool (gotN N T s).2])∧Below W.heap.size W w':=by
 by_cases h1:nameOk s=false
 ·refine(store_get_bad s _ W hs h1).mono ?_
  rintro e w' ⟨rfl,hb⟩
  rw[got_bad hr s h1]
  exact⟨rfl,hb⟩
 ·refine(store_get s p n m D W hs h.blk h.map (by simpa using h1)).mono ?_
  rintro e w' ⟨⟨t,rfl,ht⟩,hb⟩
  rw[← gotN_of hr s t (by simpa using h1) ht]
  exact⟨rfl,hb⟩
theorem getOk_map {p n:Nat} {W:World} {m:Value} {D:DataW Unit} {N T:List BA} (hp:Blk W p 101 #[m]) (hm:MapIs W m n D) (hr:Rel D N T) (hT:TOk T):GetOk (storeG N T) W.heap.size p W:=by
 intro w hb nm hnm
 have hp':=hp.below hb hp.lt
 have hm':MapIs w m n D:=hm.kept ((Kept.refl (fun k=>k<W.heap.size) W).below hb fun k hk=>hk) (fun b hb=>hm.lt hb)
 have hs:(txt nm).size≤9223372036854775807:=by rw[txt_size];omega
 have key:∀ (b:Bool) (t:BA),(t,b)=gotN N T (txt nm)→∃ t',Value.tuple #[.string t,.bool b]=.tuple #[.string (txt t'),.bool (storeG N T nm).isSome]∧(storeG N T nm=some t'∨storeG N T nm=none)∧t'.length≤131072:=by
  intro b t e
  have hz:=tok_got hT (N:=N) (txt nm)
  have e1:t=(gotN N T (txt nm)).1:=by rw[← e]
  have e2:b=(gotN N T (txt nm)).2:=by rw[← e]
  refine⟨t.data.toList,?_,?_,?_⟩
  ·rw[txt_of]
   unfold storeG
   rw[e2]
   cases (gotN N T (txt nm)).2<;>rfl
  ·unfold storeG
   rw[← e1,← e2]
   cases b
   ·exact Or.inr rfl
   ·exact Or.inl rfl
  ·rw[← e1] at hz
   have:t.data.toList.length=t.size:=by rw[Array.length_toList];rfl
   omega
 cases h1:nameOk (txt nm) with
 | false=>
  refine(store_get_bad (txt nm) _ w hs h1).mono ?_
  rintro e w' ⟨rfl,hb2⟩
  obtain⟨t',x1,x2,x3⟩:=key false ⟨#[]⟩ (got_bad hr (txt nm) h1).symm
  exact⟨⟨t',by rw[x1],x2,x3⟩,hb2⟩
 | true=>
  refine(store_get (txt nm) p n m D w hs hp' hm' h1).mono ?_
  rintro e w' ⟨⟨t,rfl,ht⟩,hb2⟩
  obtain⟨t',x1,x2,x3⟩:=key _ t (gotN_of hr (txt nm) t h1 ht)
  exact⟨⟨t',by rw[x1],x2,x3⟩,hb2⟩
def ImgIs (r:Except Int (Im×List Int)) (x0 x1 x2:Value) (c:Int) (W:World):Prop:=
 match r with
 | .error e=>c=e∧x0=.slice none 0 0∧x1=.int .i64 0∧x2=.slice none 0 0
 | .ok (m,ws)=>c=0∧1≤m.n∧m.n≤16∧ws.length≤65536∧∃ gw gm cm,x0=.slice (some ⟨gw,0,none⟩) ws.length ws.length∧x1=.int .i64 8∧x2=.slice (some ⟨gm,0,none⟩) m.n cm∧LWd W gw ws∧MRow W gm m
theorem load_img {G:Files} {nm:List UInt8} {p:Nat} (w:World) (hG:GetOk G w.heap.size p w) (hn:nm.length≤100000) {W S:Int} (hW:W≤65536) :
  Calls Tryz.prog 10 #[.pointer (some ⟨p,0,none⟩),.string (txt nm),.agg #[.int .i64 W,.int .i64 S]] w fun e w'=>(∃ x0 x1 x2 c,e=.returned (.tuple #[.agg #[x0,x1,x2],.int .i64 c])∧ImgIs (ldLoad G nm W S) x0 x1 x2 c w'∧(#[x0,x1,x2]:Array Value).all (·.oneCell')=true)∧Below w.heap.size w w':=
 (load_ok G p w hG nm hn W S).mono fun e w' ⟨h,hb⟩=>⟨by
  cases hl:ldLoad G nm W S with
  | error c=>
   rw[hl] at h
   exact⟨_,_,_,c,h,⟨rfl,rfl,rfl,rfl⟩,by simp[Value.oneCell']⟩
  | ok r=>
   obtain⟨m,ws⟩:=r
   rw[hl] at h
   obtain⟨gw,gm,cm,rfl,h1,h2,h3⟩:=h
   obtain⟨b1,b2,b3⟩:=ldLoad_inv hl
   unfold badRoom at b1
   simp only[Bool.or_eq_false_iff,decide_eq_false_iff_not] at b1
   obtain⟨i1,i2,-⟩:=Ldr.image_ok h3 (by omega) (by omega) b2
   exact⟨_,_,_,0,rfl,⟨rfl,h3.one,h3.few,by omega,gw,gm,cm,rfl,rfl,rfl,h1,h2⟩,by simp[Value.oneCell']⟩,hb⟩
theorem ImgIs.kept {r:Except Int (Im×List Int)} {x0 x1 x2:Value} {c:Int} {W W':World} {S:Nat→Prop} (h:ImgIs r x0 x1 x2 c W) (hk:Kept S W W') (hS:∀ g,(∃ l,LWd W g l)∨(∃ m,1≤Im.n m∧MRow W g m)→S g):ImgIs r x0 x1 x2 c W':=by
 cases r with
 | error e=>exact h
 | ok r=>
  obtain⟨m,ws⟩:=r
  obtain⟨h1,h2,h3,h4,gw,gm,cm,h5,h6,h7,h8,h9⟩:=h
  have s2:=hS gm (Or.inr ⟨m,h2,h9⟩)
  exact⟨h1,h2,h3,h4,gw,gm,cm,h5,h6,h7,h8.kept hk (hS gw (Or.inl ⟨ws,h8⟩)),⟨Nat.lt_of_lt_of_le h9.lt hk.size,fun j u hu=>(hk.cell (p:=⟨gm,0+j,none⟩) s2).trans (h9.cells j u hu)⟩⟩
theorem ImgIs.below {r:Except Int (Im×List Int)} {x0 x1 x2:Value} {c:Int} {W W':World} (h:ImgIs r x0 x1 x2 c W) (hb:Below W.heap.size W W'):ImgIs r x0 x1 x2 c W':=
 h.kept (S:=fun k=>k<W.heap.size) ((Kept.refl _ W).below hb fun k hk=>hk) fun g hg=>by
  rcases hg with ⟨l,h⟩ | ⟨m,-,h⟩
  ·exact h.lt
  ·exact h.lt
theorem img_err {r:Except Int (Im×List Int)} {x0 x1 x2 y0 y1 y2:Value} {c d:Int} {W W':World} (h:ImgIs r x0 x1 x2 c W) (k:ImgIs r y0 y1 y2 d W'):d=c:=by
 cases r with
 | error e=>exact k.1.trans h.1.symm
 | ok r=>exact k.1.trans h.1.symm
theorem img_same {r:Except Int (Im×List Int)} {x0 x1 x2 y0 y1 y2:Value} {c d:Int} (W:World) (h:ImgIs r x0 x1 x2 c W) (k:ImgIs r y0 y1 y2 d W) :
  Calls Tryz.prog 21 #[.agg #[x0,x1,x2],.agg #[y0,y1,y2]] W fun e w'=>e=.returned (.bool true)∧Below W.heap.size W w':=by
 cases r with
 | error e=>
  obtain⟨-,rfl,rfl,rfl⟩:=h
  obtain⟨-,rfl,rfl,rfl⟩:=k
  exact ref26_same_none W
 | ok r=>
  obtain⟨m,ws⟩:=r
  obtain⟨-,h2,h3,h4,gw,gm,cm,rfl,rfl,rfl,h8,h9⟩:=h
  obtain⟨-,-,-,-,gv,gn,cn,rfl,rfl,rfl,k8,k9⟩:=k
  exact ref26_same m ws gw gm cm gv gn cn W h8 h9 k8 k9 h3 h4
theorem put_img {B p q n:Nat} {W W':World} {m v u:Value} {D:DataW Unit} {N T:List BA} (h:Both B W p q m n D v u N T) (hk:Kept (fun k=>k<W.heap.size∧k≠p∧mapBlock m≠some k) W W') {r:Except Int (Im×List Int)} {x0 x1 x2:Value} {c:Int} (hi:ImgIs r x0 x1 x2 c W):ImgIs r x0 x1 x2 c W':=
 hi.kept hk fun g hg=>by
  rcases hg with ⟨l,h1⟩ | ⟨im,h0,h1⟩
  ·exact⟨h1.lt,Blk.ne_ h1 h.blk (by decide),map_ne_blk h.map h1⟩
  ·have hc:W.cell? ⟨g,0,none⟩=some (.string (txt (im.ob 0).name)):=by
    have:=h1.range (i:=0) (by omega) 0 (.string (txt (im.ob 0).name)) rfl
    simpa using this
   refine⟨h1.lt,fun e=>?_,fun e=>?_⟩
   ·subst e
    have h2:W.cell? ⟨g,0,none⟩=some m:=h.blk.cell 0
    rw[hc] at h2
    have h2:=Option.some.inj h2
    rcases h.map with ⟨e1,-⟩ | ⟨b,e1,-⟩
    ·rw[e1] at h2;cases h2
    ·rw[e1] at h2;cases h2
   ·rcases h.map with ⟨e1,-⟩ | ⟨b,e1,es,clock,hh,-⟩
    ·rw[e1] at e;cases e
    ·rw[e1] at e
     have e:=Option.some.inj e
     subst e
     rw[World.cell?] at hc
     simp[hh] at hc
end Go.Proofs.YtceflhffilldeaaGreat
namespace Go.Proofs.YtceflhffilldeaaGreat
open Go.RowKit Go.Maps Go.WideMaps Plays ObjL Ldr
theorem wpList_load_rows {P:Program} {ops:Array Oper} {rest:List Oper} {o:Oper} {a:Act} {w:World} {Q:Exit→Act→World→Prop} (hw:Region.wanted o (yielded ops a.tmps)=true) (ty:TypeId) (x:Operand) (ho:o.op=.load ty x)
  (g:Nat) (hx:a.eval x=.pointer (some ⟨g,0,none⟩)) (t:TypeId) (cs:Array Value) (fr:Nat×Nat) (d:TypeDesc) (hg:w.heap[g]?=some (.cells cs t fr))
  (hu:P.underlying ty=some d) (hd:(match d with | .struct _ | .array _ _=>true | _=>false)=true) (hi:(P.info? ty).map (·.size)=some cs.size)
  (h:wpList P ops Q rest (a.put o.dst (.agg cs)) w):wpList P ops Q (o::rest) a w:=
 wpList_step fun K hK=>by
  rw[if_pos hw]
  exact wp_load_row ty x ho g hx t cs fr d hg hu hd hi (hK _ _ h)
theorem law26_stays (l:List (BA×BA)) (vs:Value) (nm:List UInt8) (fn ft:BA) (w:World) (hv:FRow w vs l) (hsz:∀ x∈l,x.1.size≤9223372036854775807∧x.2.size≤9223372036854775807) (hfn:fn.size≤9223372036854775807) :
  Calls Tryz.prog 6 #[vs,.string (txt nm),.agg #[.string fn,.string ft]] w fun e w'=>e=.returned (.bool true)∧Below w.heap.size w w':=by
 have WK:∀ W',Hid (Calls Tryz.prog 9 #[] W' fun e w'=>e=.returned (.bool true)∧Below W'.heap.size W' w'):=fun W'=>zh (law26_wakes W')
 have hF1:=zh (Blk.new w 56 #[.string fn,.string ft])
 have hB1:=zh ((Below.refl w.heap.size w).alloc (Nat.le_refl _) (.cells #[.string fn,.string ft] 56))
 have hv1:=hv.below ((Below.refl w.heap.size w).alloc (Nat.le_refl _) (.cells #[.string fn,.string ft] 56))
 have ST:=zh (law26_stores l vs _ hv1 hsz)
 have hns:=txt_size nm
 obtain⟨-,A0,c0,rfl,-⟩:=hv
 clear hsz hv1
 go_enter Tryz.func6,Tryz.ntmps6
 go_wp2_with fail
 refine ST.out.mono ?_
 rintro e w2 ⟨p,q,kk,ok,rfl,hS2,hb2,hokk,-⟩
 have hB2:=zh (hB1.out.trans (hb2.mono hB1.out.size))
 have hF2:=zh (hF1.out.below hb2 hF1.out.lt)
 have cF1:w2.cell? ⟨w.heap.size,1,none⟩=some (.string ft):=hF2.out.cell 1
 have hokh:=zh hokk
 have hS2h:=zh hS2
 clear ST hS2 hb2 hF1 hokk
 cases ok
 case false=>
  go_wp2_with fail
  refine(WK _).out.mono ?_
  rintro e w9 ⟨rfl,hb⟩
  have BB9:=zh (hB2.out.trans (hb.mono hB2.out.size))
  clear hb
  go_wp2_with fail
  go_ret
  exact⟨rfl,BB9.out⟩
 by_cases hlong:(1000:Int)<nm.length
 ·go_wp2_with fail
  refine(WK _).out.mono ?_
  rintro e w9 ⟨rfl,hb⟩
  have BB9:=zh (hB2.out.trans (hb.mono hB2.out.size))
  clear hb
  go_wp2_with fail
  go_ret
  exact⟨rfl,BB9.out⟩
 by_cases hlt:(100000:Int)<ft.size
 ·go_wp2_with fail
  refine(WK _).out.mono ?_
  rintro e w9 ⟨rfl,hb⟩
  have BB9:=zh (hB2.out.trans (hb.mono hB2.out.size))
  clear hb
  go_wp2_with fail
  go_ret
  exact⟨rfl,BB9.out⟩
 by_cases hll:(60:Int)<l.length
 ·go_wp2_with fail
  refine(WK _).out.mono ?_
  rintro e w9 ⟨rfl,hb⟩
  have BB9:=zh (hB2.out.trans (hb.mono hB2.out.size))
  clear hb
  go_wp2_with fail
  go_ret
  exact⟨rfl,BB9.out⟩
 obtain⟨N,T,D,hN,hT,hD,hrl⟩:∃ N T D,(stN l kk).1=N∧(stN l kk).2=T∧stD l kk=D∧Rel D N T∧TOk T:=⟨_,_,_,rfl,rfl,rfl,st_rel l kk⟩
 obtain⟨m,n,v,u,hBo,hnk⟩:=hS2h.out
 rw[hN,hT,hD] at hBo
 have hn:n<100000:=by have:=hokh.out rfl;omega
 have hBo:=zh (hBo.base (B':=w.heap.size) hB1.out.size)
 obtain⟨hr,hTk⟩:=hrl
 have hr:=zh hr
 have hTk:=zh hTk
 have hnh:=zh hn
 have hnl:=zh (show nm.length≤100000 by omega)
 have hR3:=zh (Blk.new w2 24 #[.int .i64 4096,.int .i64 256])
 have hb:=(Below.refl w2.heap.size w2).alloc (Nat.le_refl _) (.cells #[.int .i64 4096,.int .i64 256] 24)
 have hB3:=zh (hB2.out.trans (hb.mono hB2.out.size))
 have hF3:=zh (hF2.out.below hb hF2.out.lt)
 have hBo3:=zh (hBo.out.below hb)
 clear hnk hN hT hD hokh hS2h hb hBo hn hB1
 go_upto_region 5 with fail
 clear cF1 hB2 hF2 hlt hll
 generalize w2.alloc _=w3 at *
 generalize w2.heap.size=rm at *
 have r0:w3.cell? ⟨rm,0,none⟩=some (.int .i64 4096):=hR3.out.cell 0
 have r1:w3.cell? ⟨rm,1,none⟩=some (.int .i64 256):=hR3.out.cell 1
 have LO:=zh (load_img (nm:=nm) (W:=4096) (S:=256) w3 (getOk_map hBo3.out.blk hBo3.out.map hr.out hTk.out) hnl.out (by decide))
 go_wp2_with fail
 refine LO.out.mono ?_
 rintro e w4 ⟨⟨x0,x1,x2,c,rfl,hI4,h1c⟩,hb4⟩
 clear LO r0 r1
 have hb5:=hb4.alloc hb4.size (.cells #[x0,x1,x2] imT)
 have hB5:=zh (hB3.out.trans (hb5.mono hB3.out.size))
 have hF5:=zh (hF3.out.below hb5 hF3.out.lt)
 have hR5:=zh (hR3.out.below hb5 hR3.out.lt)
 have hBo5:=zh (hBo3.out.below hb5)
 have hX5:=zh (Blk.new w4 imT #[x0,x1,x2])
 have hI5:=zh (hI4.below ((Below.refl w4.heap.size w4).alloc (Nat.le_refl _) (.cells #[x0,x1,x2] imT)))
 have h1h:=zh h1c
 have hi2:Hid ((Tryz.prog.info? imT).map (·.size)=some (#[x0,x1,x2]:Array Value).size):=zh (by kernel_rfl)
 have hj2:Hid ((#[.slice none 0 0,.int .i64 0,.slice none 0 0]:Array Value).size=(#[x0,x1,x2]:Array Value).size):=zh rfl
 clear hb4 hb5 hB3 hF3 hR3 hBo3 hI4 h1c
 go_upto_region 6 with (refine wpList_store_last rfl imT (.tmp 11) (.tmp 54) rfl w4 #[x0,x1,x2] _ _ rfl rfl rfl hi2.out hj2.out h1h.out ?_)
 clear h1h
 generalize w4.alloc _=w5 at *
 generalize w4.heap.size=g5 at *
 have NM2:=zh (both_names2 hBo5.out)
 go_wp2_with fail
 refine NM2.out.mono ?_
 rintro e w6 ⟨rN,rfl,sr6,hBo6,hb6⟩
 clear NM2
 have hB6:=zh (hB5.out.trans (hb6.mono hB5.out.size))
 have hF6:=zh (hF5.out.below hb6 hF5.out.lt)
 have hR6:=zh (hR5.out.below hb6 hR5.out.lt)
 have hX6:=zh (hX5.out.below hb6 hX5.out.lt)
 have hI6:=zh (hI5.out.below hb6)
 have hBo6:=zh hBo6
 have sr6:=zh sr6
 clear hb6 hB5 hF5 hR5 hX5 hI5 hBo5
 have NM1:=zh (both_names1 hBo6.out hr.out)
 go_wp2_with fail
 refine NM1.out.mono ?_
 rintro e w7 ⟨rM,rfl,sr7,hBo7,hb7⟩
 clear NM1
 have hB7:=zh (hB6.out.trans (hb7.mono hB6.out.size))
 have hF7:=zh (hF6.out.below hb7 hF6.out.lt)
 have hR7:=zh (hR6.out.below hb7 hR6.out.lt)
 have hX7:=zh (hX6.out.below hb7 hX6.out.lt)
 have hI7:=zh (hI6.out.below hb7)
 have hBo7:=zh hBo7
 have sn7:=zh (sr6.out.below hb7)
 have KT:=keep_texts rM rN N N w7 sr7 sn7.out
 rw[show decide (N=N)=true from decide_eq_true rfl] at KT
 have KT:=zh KT
 clear hb7 hB6 hF6 hR6 hX6 hI6 hBo6 sr6 sr7
 obtain⟨hNl,A2,c2,e2,-⟩:=id sn7.out
 subst e2
 go_wp2_with fail
 refine KT.out.mono ?_
 rintro e w8 ⟨rfl,hk8⟩
 clear KT
 have hb8:=hk8.all_below (B:=w7.heap.size)
 have hB8:=zh (hB7.out.trans (hb8.mono hB7.out.size))
 have hF8:=zh (hF7.out.below hb8 hF7.out.lt)
 have hR8:=zh (hR7.out.below hb8 hR7.out.lt)
 have hX8:=zh (hX7.out.below hb8 hX7.out.lt)
 have hI8:=zh (hI7.out.below hb8)
 have hBo8:=zh (hBo7.out.below hb8)
 have sn8:=zh (sn7.out.below hb8)
 clear hk8 hb8 hB7 hF7 hR7 hX7 hI7 hBo7 sn7
 go_wp2_with fail
 go_loopw [14] (fun iv wr=>∃ k:Nat,iv=.int .i64 k∧k≤N.length∧Hid (Below w8.heap.size w8 wr)) (fun iv _=>64-(intOf iv).toNat)
 case atStart=>exact⟨0,rfl,by omega,zh (Below.refl _ _)⟩
 case round=>
  obtain⟨k,rfl,hk,hbw⟩:=hrel
  by_cases hlt:(k:Int)<(N.length:Int)
  ·obtain⟨-,A3,c3,e3,hc3⟩:=sn8.out.below hbw.out
   injection e3 with e3 _ e4
   subst e3 e4
   obtain⟨ad,rfl,had,hca⟩:=hc3 k (by omega)
   clear hc3
   have hNs:N.length≤64:=hBo8.out.small
   have hsk:(N.getD k ⟨#[]⟩).size≤9223372036854775807:=by
    have hmem:N.getD k ⟨#[]⟩∈N:=by
     rw[List.getD_eq_getElem?_getD,List.getElem?_eq_getElem (by omega)]
     exact List.getElem_mem _
    have:=hr.out.ok _ hmem
    rw[nameOk_iff] at this
    omega
   generalize N.getD k ⟨#[]⟩=nk at *
   have G1:=zh (both_getK (hBo8.out.below hbw.out) hr.out nk hsk)
   go_wp2_with fail
   refine G1.out.mono ?_
   rintro e wa ⟨rfl,hba⟩
   have hbb:=zh (hbw.out.trans (hba.mono hbw.out.size))
   have hcb:wa.cell? (ad.add k)=some (.string nk):=(hba.cell (p:=ad.add k) (by rw[block_add];exact had)).trans hca
   have G2:=zh (both_get2 (hBo8.out.below hbb.out) hr.out nk)
   clear G1 hba hca had
   go_wp2_with fail
   refine G2.out.mono ?_
   rintro e wb ⟨rfl,rfl⟩
   clear G2 hcb
   generalize gotN N T nk=gt at *
   go_wp2_with fail
   exact⟨⟨k+1,by go_num,by omega,hbb⟩,by simp[intOf];omega⟩
  ·obtain rfl:k=N.length:=by omega
   have hBz:=zh (hB8.out.trans (hbw.out.mono hB8.out.size))
   have hFz:=zh (hF8.out.below hbw.out hF8.out.lt)
   have hRz:=zh (hR8.out.below hbw.out hR8.out.lt)
   have hXz:=zh (hX8.out.below hbw.out hX8.out.lt)
   have hIz:=zh (hI8.out.below hbw.out)
   have hBoz:=zh (hBo8.out.below hbw.out)
   have f0:wr.cell? ⟨w.heap.size,0,none⟩=some (.string fn):=hFz.out.cell 0
   have f1:wr.cell? ⟨w.heap.size,1,none⟩=some (.string ft):=hFz.out.cell 1
   have G3:=zh (both_get2 hBoz.out hr.out fn)
   clear hbw hB8 hF8 hR8 hX8 hI8 hBo8 sn8 hlt hk
   go_wp2_with fail
   refine G3.out.mono ?_
   rintro e wb ⟨rfl,rfl⟩
   clear G3
   have hB2:=hBz
   clear hBz
   cases hgi:(gotN N T fn).2
   case true=>
    go_wp2_with fail
    refine(WK _).out.mono ?_
    rintro e w9 ⟨rfl,hb⟩
    have BB9:=zh (hB2.out.trans (hb.mono hB2.out.size))
    clear hb
    go_wp2_with fail
    go_ret
    exact⟨rfl,BB9.out⟩
   by_cases h4:(4:Int)≤fn.size
   ·cases hO:((ByteArray.extract fn (fn.size-4) fn.size).toList==[46,79,98,106])
    case true=>
     go_wp2_with fail
     refine(WK _).out.mono ?_
     rintro e w9 ⟨rfl,hb⟩
     have BB9:=zh (hB2.out.trans (hb.mono hB2.out.size))
     clear hb
     go_wp2_with fail
     go_ret
     exact⟨rfl,BB9.out⟩
    have hno:Hid (∀ x,txt (x++dotObj)≠fn):=zh fun x e=>by
     rw[← e,obj_part,ByteArray.toList_eq] at hO
     exact absurd hO (by decide)
    have PK:=zh (both_putK hBoz.out fn ft hfn hnh.out)
    go_wp2_with fail
    refine PK.out.mono ?_
    rintro e wd ⟨rfl,m',n',hp1,hm1,hk1⟩
    have hId:=zh (put_img hBoz.out hk1 hIz.out)
    have hRd:=zh (hRz.out.kept hk1 ⟨hRz.out.lt,Blk.ne_ hRz.out hBoz.out.blk (by decide),map_ne_blk hBoz.out.map hRz.out⟩)
    have hXd:=zh (hXz.out.kept hk1 ⟨hXz.out.lt,Blk.ne_ hXz.out hBoz.out.blk (by decide),map_ne_blk hBoz.out.map hXz.out⟩)
    have hBd:=zh (hB2.out.trans (hk1.to_below (B:=w.heap.size) fun k hk=>⟨Nat.lt_of_lt_of_le hk hB2.out.size,fun e=>by have:=hBoz.out.bp;omega,fun e=>by have:=hBoz.out.bm k e;omega⟩))
    have LO2:=load_img (nm:=nm) (W:=4096) (S:=256) wd (getOk_map hp1 hm1 (put_same hr.out fn ft).2 (tok_put hTk.out fn ft)) hnl.out (by decide)
    rw[ldLoad_congr (G':=storeG N T) (fun x=>storeG_other hr.out fn ft (x++dotObj) (hno.out x)) nm 4096 256] at LO2
    have LO2h:=zh LO2
    have r0:wd.cell? ⟨rm,0,none⟩=some (.int .i64 4096):=hRd.out.cell 0
    have r1:wd.cell? ⟨rm,1,none⟩=some (.int .i64 256):=hRd.out.cell 1
    clear PK LO2 hp1 hm1 hk1 hBoz hIz hRz hXz hB2 hFz f0 f1 hno
    go_wp2_with fail
    refine LO2h.out.mono ?_
    rintro e we ⟨⟨y0,y1,y2,d,rfl,hJ,h1d⟩,hbe⟩
    obtain rfl:d=c:=img_err hId.out hJ
    clear LO2h r0 r1
    have hb5:=hbe.alloc hbe.size (.cells #[y0,y1,y2] imT)
    have hBf:=zh (hBd.out.trans (hb5.mono hBd.out.size))
    have hXf:=zh (hXd.out.below hb5 hXd.out.lt)
    have hYf:=zh (Blk.new we imT #[y0,y1,y2])
    have hIf:=zh (hId.out.below hb5)
    have hJf:=zh (hJ.below ((Below.refl we.heap.size we).alloc (Nat.le_refl _) (.cells #[y0,y1,y2] imT)))
    have h1h:=zh h1d
    have hi3:Hid ((Tryz.prog.info? imT).map (·.size)=some (#[y0,y1,y2]:Array Value).size):=zh (by kernel_rfl)
    have hj3:Hid ((#[.slice none 0 0,.int .i64 0,.slice none 0 0]:Array Value).size=(#[y0,y1,y2]:Array Value).size):=zh rfl
    clear hbe hb5 hBd hXd hId hJ h1d hRd hi2 hj2
    go_upto_region 21 with (refine wpList_store_last rfl imT (.tmp 21) (.tmp 126) rfl we #[y0,y1,y2] _ _ rfl rfl rfl hi3.out hj3.out h1h.out ?_)
    clear h1h hi3 hj3
    generalize we.alloc _=wf at *
    generalize we.heap.size=g6 at *
    have SM:=zh (img_same wf hIf.out hJf.out)
    have hB2:=hBf
    clear hBf hIf hJf
    go_wp2_with (first | (refine wpList_load_rows rfl imT (.tmp 11) rfl g5 rfl imT #[x0,x1,x2] (0,0) _ hXf.out Tryz.underlying33 rfl (by kernel_rfl) ?_) | (refine wpList_load_rows rfl imT (.tmp 21) rfl g6 rfl imT #[y0,y1,y2] (0,0) _ hYf.out Tryz.underlying33 rfl (by kernel_rfl) ?_))
    refine SM.out.mono ?_
    rintro e wg ⟨rfl,hbg⟩
    have hB3:=zh (hB2.out.trans (hbg.mono hB2.out.size))
    clear hB2 SM hbg hXf hYf
    have hB2:=hB3
    clear hB3
    go_wp2_with fail
    refine(WK _).out.mono ?_
    rintro e w9 ⟨rfl,hb⟩
    have BB9:=zh (hB2.out.trans (hb.mono hB2.out.size))
    clear hb
    go_wp2_with fail
    go_ret
    exact⟨rfl,BB9.out⟩
   ·have hno:Hid (∀ x,txt (x++dotObj)≠fn):=zh fun x e=>by
     have hs:(txt (x++dotObj)).size=x.length+4:=by rw[txt_size,List.length_append];rfl
     rw[e] at hs
     omega
    have PK:=zh (both_putK hBoz.out fn ft hfn hnh.out)
    go_wp2_with fail
    refine PK.out.mono ?_
    rintro e wd ⟨rfl,m',n',hp1,hm1,hk1⟩
    have hId:=zh (put_img hBoz.out hk1 hIz.out)
    have hRd:=zh (hRz.out.kept hk1 ⟨hRz.out.lt,Blk.ne_ hRz.out hBoz.out.blk (by decide),map_ne_blk hBoz.out.map hRz.out⟩)
    have hXd:=zh (hXz.out.kept hk1 ⟨hXz.out.lt,Blk.ne_ hXz.out hBoz.out.blk (by decide),map_ne_blk hBoz.out.map hXz.out⟩)
    have hBd:=zh (hB2.out.trans (hk1.to_below (B:=w.heap.size) fun k hk=>⟨Nat.lt_of_lt_of_le hk hB2.out.size,fun e=>by have:=hBoz.out.bp;omega,fun e=>by have:=hBoz.out.bm k e;omega⟩))
    have LO2:=load_img (nm:=nm) (W:=4096) (S:=256) wd (getOk_map hp1 hm1 (put_same hr.out fn ft).2 (tok_put hTk.out fn ft)) hnl.out (by decide)
    rw[ldLoad_congr (G':=storeG N T) (fun x=>storeG_other hr.out fn ft (x++dotObj) (hno.out x)) nm 4096 256] at LO2
    have LO2h:=zh LO2
    have r0:wd.cell? ⟨rm,0,none⟩=some (.int .i64 4096):=hRd.out.cell 0
    have r1:wd.cell? ⟨rm,1,none⟩=some (.int .i64 256):=hRd.out.cell 1
    clear PK LO2 hp1 hm1 hk1 hBoz hIz hRz hXz hB2 hFz f0 f1 hno
    go_wp2_with fail
    refine LO2h.out.mono ?_
    rintro e we ⟨⟨y0,y1,y2,d,rfl,hJ,h1d⟩,hbe⟩
    obtain rfl:d=c:=img_err hId.out hJ
    clear LO2h r0 r1
    have hb5:=hbe.alloc hbe.size (.cells #[y0,y1,y2] imT)
    have hBf:=zh (hBd.out.trans (hb5.mono hBd.out.size))
    have hXf:=zh (hXd.out.below hb5 hXd.out.lt)
    have hYf:=zh (Blk.new we imT #[y0,y1,y2])
    have hIf:=zh (hId.out.below hb5)
    have hJf:=zh (hJ.below ((Below.refl we.heap.size we).alloc (Nat.le_refl _) (.cells #[y0,y1,y2] imT)))
    have h1h:=zh h1d
    have hi3:Hid ((Tryz.prog.info? imT).map (·.size)=some (#[y0,y1,y2]:Array Value).size):=zh (by kernel_rfl)
    have hj3:Hid ((#[.slice none 0 0,.int .i64 0,.slice none 0 0]:Array Value).size=(#[y0,y1,y2]:Array Value).size):=zh rfl
    clear hbe hb5 hBd hXd hId hJ h1d hRd hi2 hj2
    go_upto_region 21 with (refine wpList_store_last rfl imT (.tmp 21) (.tmp 126) rfl we #[y0,y1,y2] _ _ rfl rfl rfl hi3.out hj3.out h1h.out ?_)
    clear h1h hi3 hj3
    generalize we.alloc _=wf at *
    generalize we.heap.size=g6 at *
    have SM:=zh (img_same wf hIf.out hJf.out)
    have hB2:=hBf
    clear hBf hIf hJf
    go_wp2_with (first | (refine wpList_load_rows rfl imT (.tmp 11) rfl g5 rfl imT #[x0,x1,x2] (0,0) _ hXf.out Tryz.underlying33 rfl (by kernel_rfl) ?_) | (refine wpList_load_rows rfl imT (.tmp 21) rfl g6 rfl imT #[y0,y1,y2] (0,0) _ hYf.out Tryz.underlying33 rfl (by kernel_rfl) ?_))
    refine SM.out.mono ?_
    rintro e wg ⟨rfl,hbg⟩
    have hB3:=zh (hB2.out.trans (hbg.mono hB2.out.size))
    clear hB2 SM hbg hXf hYf
    have hB2:=hB3
    clear hB3
    go_wp2_with fail
    refine(WK _).out.mono ?_
    rintro e w9 ⟨rfl,hb⟩
    have BB9:=zh (hB2.out.trans (hb.mono hB2.out.size))
    clear hb
    go_wp2_with fail
    go_ret
    exact⟨rfl,BB9.out⟩
theorem law26_stays_text (l:List (BA×BA)) (vs:Value) (s fn ft:BA) (w:World) (hv:FRow w vs l) (hsz:∀ x∈l,x.1.size≤9223372036854775807∧x.2.size≤9223372036854775807) (hfn:fn.size≤9223372036854775807) :
  Calls Tryz.prog 6 #[vs,.string s,.agg #[.string fn,.string ft]] w fun e w'=>e=.returned (.bool true)∧Below w.heap.size w w':=by
 have:=law26_stays l vs s.data.toList fn ft w hv hsz hfn
 rw[txt_of] at this
 exact this
end Go.Proofs.YtceflhffilldeaaGreat
