/-
  Joined: ZKeys.
-/
import Derived.Test.YtceflhffilldeaaGreatZKeysL
set_option linter.unusedVariables false
set_option linter.unusedSimpArgs false
set_option maxRecDepth 100000
set_option maxHeartbeats 16000000
namespace Go.Proofs.YtceflhffilldeaaGreat
open Go.RowKit Go.Maps Go.WideMaps Plays ObjL Ldr
theorem wpList_load_rowk {P:Program} {ops:Array Oper} {rest:List Oper} {o:Oper} {a:Act} {w:World} {Q:Exit→Act→World→Prop} (hw:Region.wanted o (yielded ops a.tmps)=true) (ty:TypeId) (x:Operand) (ho:o.op=.load ty x)
  (g:Nat) (hx:a.eval x=.pointer (some ⟨g,0,none⟩)) (t:TypeId) (cs:Array Value) (fr:Nat×Nat) (d:TypeDesc) (hg:w.heap[g]?=some (.cells cs t fr))
  (hu:P.underlying ty=some d) (hd:(match d with | .struct _ | .array _ _=>true | _=>false)=true) (hi:(P.info? ty).map (·.size)=some cs.size)
  (h:wpList P ops Q rest (a.put o.dst (.agg cs)) w):wpList P ops Q (o::rest) a w:=
 wpList_step fun K hK=>by
  rw[if_pos hw]
  exact wp_load_row ty x ho g hx t cs fr d hg hu hd hi (hK _ _ h)
theorem enc_cases (o:Ob):(goodO o=true∧(encO o).length≤131072∧encRes (goodO o) o=.tuple #[.string (txt (encO o)),.int .i64 0])∨∃ er,er≠0∧encRes (goodO o) o=.tuple #[.string (txt []),.int .i64 er]:=by
 unfold encRes
 by_cases h:goodO o=true
 ·rw[if_pos h]
  by_cases h2:131072<(encO o).length
  ·rw[if_pos h2];exact Or.inr ⟨2,by decide,rfl⟩
  ·rw[if_neg h2];exact Or.inl ⟨h,by omega,rfl⟩
 ·rw[if_neg h];exact Or.inr ⟨230,by decide,rfl⟩
theorem key_encode (o:Ob) (vU vD vC vE:Value) (w:World) (hp:ObParts w o vU vD vC vE) (hf:ObFine o) :
  Calls Tryz.prog 12 #[.agg (obCells o vU vD vC vE)] w fun e w'=>e=.returned (encRes (goodO o) o)∧Below w.heap.size w w':=
 ref23_encode o vU vD vC vE w hp (goodO o) good_wr (fun W h=>ref23_good o vU vD vC vE W h hf)
theorem frow_two {w:World} {g:Nat} {t:TypeId} {a b c d:BA} (h:Blk w g t #[.string a,.string b,.string c,.string d]):FRow w (.slice (some ⟨g,0,none⟩) 2 2) [(a,b),(c,d)]:=
 ⟨by simp,some ⟨g,0,none⟩,2,rfl,fun i hi=>⟨⟨g,0,none⟩,rfl,h.lt,fun j hj=>by
  have:i=0∨i=1:=by simp at hi;omega
  rcases this with rfl | rfl
  ·rcases (show j=0∨j=1 by omega) with rfl | rfl
   ·exact⟨_,h.cell 0,⟨fun _=>rfl,fun h=>absurd h (by decide)⟩⟩
   ·exact⟨_,h.cell 1,⟨fun h=>absurd h (by decide),fun _=>rfl⟩⟩
  ·rcases (show j=0∨j=1 by omega) with rfl | rfl
   ·exact⟨_,h.cell 2,⟨fun _=>rfl,fun h=>absurd h (by decide)⟩⟩
   ·exact⟨_,h.cell 3,⟨fun h=>absurd h (by decide),fun _=>rfl⟩⟩⟩⟩
theorem srow_two {w:World} {g:Nat} {e:TypeId} {a b:BA} (h:Blk w g e #[.string a,.string b]):SRow w (.slice (some ⟨g,0,none⟩) 2 2) [a,b]:=
 ⟨by simp,some ⟨g,0,none⟩,2,rfl,fun k hk=>⟨⟨g,0,none⟩,rfl,h.lt,by
  have:k=0∨k=1:=by simp at hk;omega
  rcases this with rfl | rfl
  ·exact h.cell 0
  ·exact h.cell 1⟩⟩
def keyFiles (o:Ob) (key:Int):List (BA×BA):=[(txt (o.name++dotObj),txt (encO o)),(txt (clName++dotObj),txt (encO (clOb o.name key)))]
structure KeyOk (o:Ob) (key:Int):Prop where
 ne:o.name≠clName
 uses:o.uses=[]
 g1:goodO o=true
 l1:(encO o).length≤131072
 g2:goodO (clOb o.name key)=true
 l2:(encO (clOb o.name key)).length≤131072
 len:o.name.length+4≤24
theorem key_stores {o:Ob} {key:Int} (hk:KeyOk o key) (w:World) (g:Nat) (t:TypeId) (h:Blk w g t #[.string (txt o.name++⟨#[46,79,98,106]⟩),.string (txt (encO o)),.string ⟨#[67,108,105,101,110,116,46,79,98,106]⟩,.string (txt (encO (clOb o.name key)))]) :
  Calls Tryz.prog 8 #[.slice (some ⟨g,0,none⟩) 2 2] w fun e w'=>∃ p q,e=.returned (.tuple #[.pointer (some ⟨p,0,none⟩),.pointer (some ⟨q,0,none⟩),.bool true])∧SideF w.heap.size w' p q (keyFiles o key) 2∧Below w.heap.size w w':=by
 rw[ext_txt,show (⟨#[67,108,105,101,110,116,46,79,98,106]⟩:ByteArray)=txt (clName++dotObj) from rfl] at h
 have hl:=hk.len
 have h1:=hk.l1
 have h2:=hk.l2
 have s1:(txt (o.name++dotObj)).size=o.name.length+4:=by rw[txt_size,List.length_append];rfl
 have s2:(txt (clName++dotObj)).size=10:=rfl
 have s3:(txt (encO o)).size=(encO o).length:=txt_size _
 have s4:(txt (encO (clOb o.name key))).size=(encO (clOb o.name key)).length:=txt_size _
 refine(law26_stores (keyFiles o key) _ w (frow_two h) (fun x hx=>by
  unfold keyFiles at hx
  simp only[List.mem_cons,List.not_mem_nil,or_false] at hx
  rcases hx with rfl | rfl
  ·exact⟨by show (txt (o.name++dotObj)).size≤_;omega,by show (txt (encO o)).size≤_;omega⟩
  ·exact⟨by show (txt (clName++dotObj)).size≤_;omega,by show (txt (encO (clOb o.name key))).size≤_;omega⟩)).mono ?_
 rintro e w' ⟨p,q,k,ok,rfl,h1',h2',h3,h4⟩
 cases ok with
 | true=>
  have:=h3 rfl
  subst this
  exact⟨p,q,rfl,h1',h2'⟩
 | false=>
  exfalso
  obtain⟨j,hj,hs⟩:=h4 rfl
  have e1:sumF (keyFiles o key) 1=IntKind.i64.wrap (0+IntKind.i64.wrap (((txt (encO o)).size:Int)+((txt (o.name++dotObj)).size:Int))):=rfl
  have e2:sumF (keyFiles o key) 2=IntKind.i64.wrap (sumF (keyFiles o key) 1+IntKind.i64.wrap (((txt (encO (clOb o.name key))).size:Int)+((txt (clName++dotObj)).size:Int))):=rfl
  rw[s1,s3,IntKind.wrap_i64,IntKind.wrap_i64] at e1
  rw[s2,s4,IntKind.wrap_i64,IntKind.wrap_i64] at e2
  have:j=0∨j=1:=by
   have:min (keyFiles o key).length 70=2:=rfl
   omega
  rcases this with rfl | rfl
  ·have hs':400000<sumF (keyFiles o key) 1:=hs
   omega
  ·have hs':400000<sumF (keyFiles o key) 2:=hs
   omega
theorem key_get {o:Ob} {key:Int} {B p q:Nat} {W:World} (h:SideF B W p q (keyFiles o key) 2):GetOk (storeG (stN (keyFiles o key) 2).1 (stN (keyFiles o key) 2).2) W.heap.size p W:=by
 obtain⟨m,n,v,u,h1,-⟩:=h
 exact getOk_of h1 (st_rel _ _).1 (st_rel _ _).2
theorem key_load {o:Ob} {key:Int} (hk:KeyOk o key):Ldr.load (storeG (stN (keyFiles o key) 2).1 (stN (keyFiles o key) 2).2) 17 clName LS.none_=keysR o key:=by
 obtain⟨h1,h2⟩:=keys_files hk.ne hk.g1 hk.len hk.l1 hk.l2 (keyFiles o key) rfl
 exact keys_load hk.uses hk.ne hk.g1 hk.l1 hk.g2 hk.l2 h1 h2
theorem key_order {o:Ob} {key:Int} (hk:KeyOk o key) {B p q:Nat} (W:World) (h:SideF B W p q (keyFiles o key) 2) :
  Calls Tryz.prog 14 #[.pointer (some ⟨p,0,none⟩),.string ⟨#[67,108,105,101,110,116]⟩] W fun e w'=>(∃ v c,e=.returned (.tuple #[v,.int .i64 c])∧OrdAns W.heap.size (keysR o key) v c w')∧Below W.heap.size W w':=by
 have:=order_ok _ p W (key_get h) clName (by decide)
 rw[key_load hk] at this
 exact this
theorem key_order_no {o:Ob} {key:Int} (hk:KeyOk o key) (hne:o.key≠key) {B p q:Nat} (W:World) (h:SideF B W p q (keyFiles o key) 2) :
  Calls Tryz.prog 14 #[.pointer (some ⟨p,0,none⟩),.string ⟨#[67,108,105,101,110,116]⟩] W fun e w'=>e=.returned (.tuple #[.slice none 0 0,.int .i64 184])∧Below W.heap.size W w':=
 (key_order hk W h).mono fun e w' h=>by
  obtain⟨⟨v,c,rfl,h2⟩,h3⟩:=h
  unfold keysR at h2
  rw[if_neg hne] at h2
  obtain⟨rfl,rfl⟩:=h2
  exact⟨rfl,h3⟩
theorem key_order_ok {o:Ob} {key:Int} (hk:KeyOk o key) (heq:o.key=key) {B p q:Nat} (W:World) (h:SideF B W p q (keyFiles o key) 2) :
  Calls Tryz.prog 14 #[.pointer (some ⟨p,0,none⟩),.string ⟨#[67,108,105,101,110,116]⟩] W fun e w'=>∃ v,e=.returned (.tuple #[v,.int .i64 0])∧SRow w' v [txt o.name,⟨#[67,108,105,101,110,116]⟩]∧Below W.heap.size W w':=
 (key_order hk W h).mono fun e w' h=>by
  obtain⟨⟨v,c,rfl,h2⟩,h3⟩:=h
  unfold keysR at h2
  rw[if_pos heq] at h2
  obtain⟨rfl,h4⟩:=h2
  exact⟨v,rfl,srow_of_own (l:=[txt o.name,⟨#[67,108,105,101,110,116]⟩]) (by simp) h4,h3⟩
theorem urow_one {w:World} {g:Nat} {t:TypeId} {nm:List UInt8} {key:Int} (h:Blk w g t #[.string (txt nm),.int .u32 key]):URow w (.slice (some ⟨g,0,none⟩) 1 1) [(nm,key)]:=
 ⟨by simp,some ⟨g,0,none⟩,1,rfl,fun i hi=>⟨⟨g,0,none⟩,rfl,h.lt,fun j hj=>by
  have:i=0:=by simp at hi;omega
  subst this
  rcases (show j=0∨j=1 by omega) with rfl | rfl
  ·exact⟨_,h.cell 0,⟨fun _=>rfl,fun h=>absurd h (by decide)⟩⟩
  ·exact⟨_,h.cell 1,⟨fun h=>absurd h (by decide),fun _=>rfl⟩⟩⟩⟩
theorem name_len {o:Ob} (h:goodO o=true):o.name.length≤24:=by
 unfold goodO namesB wordT at h
 simp only[Bool.and_eq_true,decide_eq_true_eq,List.all_eq_true] at h
 obtain⟨⟨⟨⟨⟨-,⟨⟨⟨⟨⟨-,n2⟩,-⟩,-⟩,-⟩,-⟩,-⟩,-⟩,-⟩,-⟩,-⟩:=h
 exact n2
theorem client_fine {o:Ob} {key:Int} (hf:ObFine o) (h0:0≤key) (h1:key≤4294967295):ObFine (clOb o.name key):=
 ⟨by show clName.length≤_;decide,plain_fine.key,fun u hu=>by
  have:u=(o.name,key):=by simpa [clOb] using hu
  subst this
  exact⟨hf.name,h0,h1⟩,plain_fine.desc,plain_fine.data,plain_fine.strings,plain_fine.code,plain_fine.entries,plain_fine.calls,plain_fine.places⟩
theorem law26_keys (o:Ob) (vU1 vD1 vC1 vE1:Value) (key:Int) (W:World) (hp1:ObParts W o vU1 vD1 vC1 vE1) (hf1:ObFine o) (hz1:ObSized o) (hk0:0≤key) (hk1:key≤4294967295) :
  Calls Tryz.prog 5 #[.agg (obCells o vU1 vD1 vC1 vE1),.int .u32 key] W fun e w'=>e=.returned (.bool true)∧Below W.heap.size W w':=by
 have WK:∀ W',Hid (Calls Tryz.prog 9 #[] W' fun e w'=>e=.returned (.bool true)∧Below W'.heap.size W' w'):=fun W'=>zh (law26_wakes W')
 have P1:=zh hp1
 obtain⟨⟨-,AU1,cU1,rfl,-⟩,⟨-,AD1,cD1,rfl,-⟩,⟨-,AC1,cC1,rfl,-⟩,⟨-,AE1,cE1,rfl,-⟩⟩:=hp1
 have hf1h:=zh hf1
 have hz1h:=zh hz1
 have hcf:=zh (client_fine hf1 hk0 hk1)
 clear hf1 hz1 hk0 hk1
 have BB:=zh (Below.refl W.heap.size W)
 have hb:=(Below.refl W.heap.size W).alloc (Nat.le_refl _) (.cells (obCells o (.slice AU1 (o).uses.length cU1) (.slice AD1 (o).descs.length cD1) (.slice AC1 (o).code.length cC1) (.slice AE1 (o).entries.length cE1)) 48)
 have L1:=zh (Blk.new W 48 (obCells o (.slice AU1 (o).uses.length cU1) (.slice AD1 (o).descs.length cD1) (.slice AC1 (o).code.length cC1) (.slice AE1 (o).entries.length cE1)))
 replace P1:=zh (P1.out.below hb)
 replace BB:=zh (BB.out.trans (hb.mono BB.out.size))
 clear hb
 go_enter Tryz.func5,Tryz.ntmps5
 go_upto_region 1 with fail
 generalize hW0:(W.alloc (.cells (obCells o (.slice AU1 (o).uses.length cU1) (.slice AD1 (o).descs.length cD1) (.slice AC1 (o).code.length cC1) (.slice AE1 (o).entries.length cE1)) 48))=w1 at *
 clear hW0
 go_wp2_with (refine wpList_load_rowk rfl 48 (.tmp 2) rfl W.heap.size rfl 48 (obCells o (.slice AU1 (o).uses.length cU1) (.slice AD1 (o).descs.length cD1) (.slice AC1 (o).code.length cC1) (.slice AE1 (o).entries.length cE1)) (0,0) _ L1.out Tryz.underlying48 rfl (by kernel_rfl) ?_)
 refine(law23_large o (.slice AU1 (o).uses.length cU1) (.slice AD1 (o).descs.length cD1) (.slice AC1 (o).code.length cC1) (.slice AE1 (o).entries.length cE1) w1 P1.out hz1h.out).mono ?_
 rintro e w2 ⟨Lg1,rfl,-,hb⟩
 replace L1:=zh (L1.out.below hb L1.out.lt)
 replace P1:=zh (P1.out.below hb)
 replace BB:=zh (BB.out.trans (hb.mono BB.out.size))
 clear hb
 clear hz1h
 cases Lg1
 case true=>
  go_wp2_with fail
  refine(WK _).out.mono ?_
  rintro e w9 ⟨rfl,hb⟩
  have BB9:=zh (BB.out.trans (hb.mono BB.out.size))
  clear hb
  go_wp2_with fail
  go_ret
  exact⟨rfl,BB9.out⟩
 have c0:w2.cell? ⟨W.heap.size,0,none⟩=some (.string (txt o.name)):=L1.out.cell 0
 have c2:w2.cell? ⟨W.heap.size,2,none⟩=some (.slice AU1 o.uses.length cU1):=L1.out.cell 2
 by_cases hu:0<o.uses.length
 ·go_wp2_with fail
  refine(WK _).out.mono ?_
  rintro e w9 ⟨rfl,hb⟩
  have BB9:=zh (BB.out.trans (hb.mono BB.out.size))
  clear hb
  go_wp2_with fail
  go_ret
  exact⟨rfl,BB9.out⟩
 have hu0:Hid (o.uses=[]):=zh (List.eq_nil_of_length_eq_zero (by omega))
 generalize hL:o.uses.length=L at *
 obtain rfl:L=0:=by omega
 clear hL hu
 have htl:(txt o.name).toList=o.name:=by rw[ByteArray.toList_eq,txt_data]
 by_cases hne0:o.name=clName
 ·have hnm:((txt o.name).toList==[67,108,105,101,110,116])=true:=by rw[htl,hne0];rfl
  clear htl hne0
  go_wp2_with fail
  refine(WK _).out.mono ?_
  rintro e w9 ⟨rfl,hb⟩
  have BB9:=zh (BB.out.trans (hb.mono BB.out.size))
  clear hb
  go_wp2_with fail
  go_ret
  exact⟨rfl,BB9.out⟩
 have hnm:((txt o.name).toList==[67,108,105,101,110,116])=false:=by rw[htl,beq_eq_false_iff_ne];exact hne0
 have hnm2:¬ (txt o.name).toList=[67,108,105,101,110,116]:=by rw[htl];exact hne0
 have hne:Hid (o.name≠clName):=zh hne0
 clear htl hne0
 have EN:=zh (key_encode o (.slice AU1 0 cU1) (.slice AD1 (o).descs.length cD1) (.slice AC1 (o).code.length cC1) (.slice AE1 (o).entries.length cE1) w2 P1.out hf1h.out)
 go_upto_region 3 with fail
 clear c0 c2 hnm hnm2
 rcases enc_cases o with ⟨g1,l1,hres⟩ | ⟨er,her,hres⟩
 rotate_left
 ·rw[hres] at EN
  clear hres
  have he1:(er==0)=false:=by rw[beq_eq_false_iff_ne];exact her
  have he2:(er != 0)=true:=by rw[bne_iff_ne];exact her
  go_wp2_with (refine wpList_load_rowk rfl 48 (.tmp 2) rfl W.heap.size rfl 48 (obCells o (.slice AU1 0 cU1) (.slice AD1 (o).descs.length cD1) (.slice AC1 (o).code.length cC1) (.slice AE1 (o).entries.length cE1)) (0,0) _ L1.out Tryz.underlying48 rfl (by kernel_rfl) ?_)
  refine EN.out.mono ?_
  rintro e w3 ⟨rfl,hb⟩
  replace BB:=zh (BB.out.trans (hb.mono BB.out.size))
  clear hb
  go_wp2_with fail
  refine(WK _).out.mono ?_
  rintro e w9 ⟨rfl,hb⟩
  have BB9:=zh (BB.out.trans (hb.mono BB.out.size))
  clear hb
  go_wp2_with fail
  go_ret
  exact⟨rfl,BB9.out⟩
 rw[hres] at EN
 clear hres
 go_wp2_with (refine wpList_load_rowk rfl 48 (.tmp 2) rfl W.heap.size rfl 48 (obCells o (.slice AU1 0 cU1) (.slice AD1 (o).descs.length cD1) (.slice AC1 (o).code.length cC1) (.slice AE1 (o).entries.length cE1)) (0,0) _ L1.out Tryz.underlying48 rfl (by kernel_rfl) ?_)
 refine EN.out.mono ?_
 rintro e w3 ⟨rfl,hb⟩
 replace L1:=zh (L1.out.below hb L1.out.lt)
 replace P1:=zh (P1.out.below hb)
 replace BB:=zh (BB.out.trans (hb.mono BB.out.size))
 clear hb
 clear EN
 go_upto_region 6 with fail
 go_wp2_with fail
 refine(law23_plain _).mono ?_
 rintro e w4 ⟨vC,vE,rfl,hP,hb⟩
 have P2:=zh hP
 clear hP
 replace L1:=zh (L1.out.below hb L1.out.lt)
 replace P1:=zh (P1.out.below hb)
 replace BB:=zh (BB.out.trans (hb.mono BB.out.size))
 clear hb
 have hb:=(Below.refl w4.heap.size w4).alloc (Nat.le_refl _) (.cells (obCells plainOb nilS nilS vC vE) 48)
 have B45:=zh hb
 have P4:=P2
 have L1w4:=L1
 have P1w4:=P1
 have BBw4:=BB
 have L2:=zh (Blk.new w4 48 (obCells plainOb nilS nilS vC vE))
 replace P2:=zh (P2.out.below hb)
 replace L1:=zh (L1.out.below hb L1.out.lt)
 replace P1:=zh (P1.out.below hb)
 replace BB:=zh (BB.out.trans (hb.mono BB.out.size))
 clear hb
 have hi2:Hid ((Tryz.prog.info? 48).map (·.size)=some (obCells plainOb nilS nilS vC vE).size):=zh (by kernel_rfl)
 have hj2:Hid ((#[.string ⟨#[]⟩,.int .u32 0,.slice none 0 0,.slice none 0 0,.int .i64 0,.string ⟨#[]⟩,.slice none 0 0,.slice none 0 0,.int .i64 0,.int .i64 0]:Array Value).size=(obCells plainOb nilS nilS vC vE).size):=zh rfl
 have hk2:Hid ((obCells plainOb nilS nilS vC vE).all (·.oneCell')=true):=zh (by obtain⟨⟨-,A1,c1,e1,-⟩,⟨-,A2,c2,e2,-⟩⟩:=And.intro P2.out.code P2.out.entries;rw[e1,e2];simp[obCells,Value.oneCell',nilS])
 go_upto_region 7 with (refine wpList_store_last rfl 48 (.tmp 7) (.tmp 37) rfl w4 (obCells plainOb nilS nilS vC vE) _ _ rfl rfl rfl hi2.out hj2.out hk2.out ?_)
 clear hi2 hj2 hk2
 generalize w4.alloc _=w5 at *
 generalize hg7:w4.heap.size=g7 at *
 have hg7h:=zh hg7
 clear hg7
 have hne1:Hid (W.heap.size≠g7):=zh (by have h1:=L1w4.out.lt;have h2:=hg7h.out;omega)
 have hsz5:Hid (g7<w5.heap.size):=zh L2.out.lt
 simp only[Act.put]
 go_cut [] from 38 to 44 (fun wx=>∃ gu:Nat,Hid (Blk wx g7 48 (obCells (clOb o.name key) (.slice (some ⟨gu,0,none⟩) 1 1) nilS vC vE)∧Blk wx gu 54 #[.string (txt o.name),.int .u32 key]∧Below g7 w4 wx))
 case first=>
  refine wp_region_F (fun w'=>w'.cell? ⟨W.heap.size,0,none⟩=some (.string (txt o.name))) 8 (by kernel_rfl) ?_
  have S0:w5.drew.cell? ⟨W.heap.size,0,none⟩=some (.string (txt o.name)):=L1.out.cell 0
  refine hfTake 0 (v:=?_) ?_ S0 ?_
  rotate_left
  ·(intro _ h;(try dsimp only at h);go_simp<;>with_reducible rfl)
  try simp only[Act.put,sAp,sA0,sAs]
  refine hfTake 1 (v:=?_) ?_ S0 ?_
  rotate_left
  ·(intro _ h;(try dsimp only at h);go_simp<;>with_reducible rfl)
  try simp only[Act.put,sAp,sA0,sAs]
  refine hfTake 2 (v:=?_) ?_ S0 ?_
  rotate_left
  ·(intro _ h;(try dsimp only at h);go_simp<;>with_reducible rfl)
  try simp only[Act.put,sAp,sA0,sAs]
  refine hfTake 3 (v:=?_) ?_ S0 ?_
  rotate_left
  ·(intro _ h;(try dsimp only at h);go_simp<;>with_reducible rfl)
  try simp only[Act.put,sAp,sA0,sAs]
  refine hfTake 5 (v:=?_) ?_ S0 ?_
  rotate_left
  ·(intro _ h;(try dsimp only at h);go_simp<;>with_reducible rfl)
  try simp only[Act.put,sAp,sA0,sAs]
  refine wpAnyF_ready [4,6] (by kernel_rfl) (by simp) (ReadyF.consL rfl (fun K hK=>?_) (ReadyF.consL rfl (fun K hK=>?_) ReadyF.nil))
  ·have G:Hid (Below g7 w4 w5):=B45
   have D:Hid (Blk w5 g7 48 (obCells plainOb nilS nilS vC vE)):=L2
   have E:Hid (Blk w5 W.heap.size 48 (obCells o (.slice AU1 0 cU1) (.slice AD1 (o).descs.length cD1) (.slice AC1 (o).code.length cC1) (.slice AE1 (o).entries.length cE1))):=L1
   go_simp
   have G_:=zh (G.out.alloc (Nat.le_of_lt (show g7<w5.heap.size from D.out.lt)) (.cells #[.string (txt o.name),.int .u32 key] 54)).drew
   have N:=zh (Blk.new w5 54 #[.string (txt o.name),.int .u32 key]).drew
   have D_:=zh (D.out.alloc (.cells #[.string (txt o.name),.int .u32 key] 54)).drew
   have E_:=zh (E.out.alloc (.cells #[.string (txt o.name),.int .u32 key] 54)).drew
   have hne:=zh (show w5.heap.size≠g7 by have:=D.out.lt;omega)
   refine hK.out _ _ (fun _=>E_.out.cell 0) ?_
   clear hK K S0 G D E
   try simp only[Act.put,sAp,sA0,sAs]
   try rw[show w5.drew.heap.size=w5.heap.size from rfl]
   obtain⟨gu,e1⟩:∃ gu,gu=w5.heap.size:=⟨_,rfl⟩
   rw[← e1] at N hne ⊢
   clear e1
   generalize (w5.alloc (.cells #[.string (txt o.name),.int .u32 key] 54)).drew=v1 at *
   have G:=G_
   have D:=D_
   have E:=E_
   clear G_ D_ E_
   have S0:v1.cell? ⟨W.heap.size,0,none⟩=some (.string (txt o.name)):=E.out.cell 0
   refine hfRdy 6 (by kernel_rfl) rfl fun K hK=>?_
   have x0:v1.cell? ⟨g7,0,none⟩=some (.string (txt [65])):=D.out.cell 0
   have f0:v1.frozen? ⟨g7,0,none⟩=false:=D.out.frozen 0
   go_simp
   have KK:=(Kept.refl (fun k=>k≠g7) v1).setCell (p:=⟨g7,0,none⟩) (fun h=>h rfl) (.string ⟨#[67,108,105,101,110,116]⟩)
   have G_:=zh (show Below g7 w4 (v1.setCell ⟨g7,0,none⟩ (.string ⟨#[67,108,105,101,110,116]⟩)) from G.out.setCell (by simp) _)
   have D_:=zh (show Blk (v1.setCell ⟨g7,0,none⟩ (.string ⟨#[67,108,105,101,110,116]⟩)) g7 48 #[.string ⟨#[67,108,105,101,110,116]⟩,.int .u32 1,nilS,nilS,.int .i64 0,.string (txt []),vC,vE,.int .i64 (-1),.int .i64 (-1)] from D.out.set_ 0 (.string ⟨#[67,108,105,101,110,116]⟩))
   have E_:=zh (E.out.kept KK hne1.out)
   have N_:=zh (N.out.kept KK hne.out)
   refine hK.out _ _ (fun _=>E_.out.cell 0) ?_
   clear hK K S0 G D E KK x0 f0 N
   try simp only[Act.put,sAp,sA0,sAs]
   generalize v1.setCell _ _=v2 at *
   have G:=G_
   have D:=D_
   have E:=E_
   have N:=N_
   clear G_ D_ E_ N_
   have S0:v2.cell? ⟨W.heap.size,0,none⟩=some (.string (txt o.name)):=E.out.cell 0
   refine hfTake 7 (v:=?_) ?_ S0 ?_
   rotate_left
   ·(intro _ h;(try dsimp only at h);go_simp<;>with_reducible rfl)
   try simp only[Act.put,sAp,sA0,sAs]
   refine hfRdy 8 (by kernel_rfl) rfl fun K hK=>?_
   have x0:v2.cell? ⟨g7,2,none⟩=some nilS:=D.out.cell 2
   have f0:v2.frozen? ⟨g7,2,none⟩=false:=D.out.frozen 2
   go_simp
   have KK:=(Kept.refl (fun k=>k≠g7) v2).setCell (p:=⟨g7,2,none⟩) (fun h=>h rfl) (.slice (some ⟨gu,0,none⟩) 1 1)
   have G_:=zh (show Below g7 w4 (v2.setCell ⟨g7,2,none⟩ (.slice (some ⟨gu,0,none⟩) 1 1)) from G.out.setCell (by simp) _)
   have D_:=zh (show Blk (v2.setCell ⟨g7,2,none⟩ (.slice (some ⟨gu,0,none⟩) 1 1)) g7 48 (obCells (clOb o.name key) (.slice (some ⟨gu,0,none⟩) 1 1) nilS vC vE) from D.out.set_ 2 (.slice (some ⟨gu,0,none⟩) 1 1))
   have E_:=zh (E.out.kept KK hne1.out)
   have N_:=zh (N.out.kept KK hne.out)
   refine hK.out _ _ (fun h=>absurd rfl h) ?_
   clear hK K S0 G D E KK x0 f0 N
   try simp only[Act.put,sAp,sA0,sAs]
   generalize v2.setCell _ _=v3 at *
   have G:=G_
   have D:=D_
   have E:=E_
   have N:=N_
   clear G_ D_ E_ N_
   refine wpAnyF_done (by kernel_rfl) ?_ _
   go_wp2_with fail
   go_meet
   exact⟨gu,zh ⟨D.out,N.out,G.out⟩⟩
  ·have G:Hid (Below g7 w4 w5):=B45
   have D:Hid (Blk w5 g7 48 (obCells plainOb nilS nilS vC vE)):=L2
   have E:Hid (Blk w5 W.heap.size 48 (obCells o (.slice AU1 0 cU1) (.slice AD1 (o).descs.length cD1) (.slice AC1 (o).code.length cC1) (.slice AE1 (o).entries.length cE1))):=L1
   have x0:w5.drew.cell? ⟨g7,0,none⟩=some (.string (txt [65])):=D.out.cell 0
   have f0:w5.drew.frozen? ⟨g7,0,none⟩=false:=D.out.frozen 0
   go_simp
   have KK:=((Kept.refl (fun k=>k≠g7) w5).setCell (p:=⟨g7,0,none⟩) (fun h=>h rfl) (.string ⟨#[67,108,105,101,110,116]⟩)).drew
   have G_:=zh (show Below g7 w4 (w5.setCell ⟨g7,0,none⟩ (.string ⟨#[67,108,105,101,110,116]⟩)).drew from (G.out.setCell (by simp) _).drew)
   have D_:=zh (show Blk (w5.setCell ⟨g7,0,none⟩ (.string ⟨#[67,108,105,101,110,116]⟩)).drew g7 48 #[.string ⟨#[67,108,105,101,110,116]⟩,.int .u32 1,nilS,nilS,.int .i64 0,.string (txt []),vC,vE,.int .i64 (-1),.int .i64 (-1)] from D.out.set_ 0 (.string ⟨#[67,108,105,101,110,116]⟩))
   have E_:=zh (E.out.kept KK hne1.out)
   refine hK.out _ _ (fun _=>E_.out.cell 0) ?_
   clear hK K S0 G D E KK x0 f0
   try simp only[Act.put,sAp,sA0,sAs]
   generalize (w5.setCell ⟨g7,0,none⟩ (.string ⟨#[67,108,105,101,110,116]⟩)).drew=v1 at *
   have G:=G_
   have D:=D_
   have E:=E_
   clear G_ D_ E_
   have S0:v1.cell? ⟨W.heap.size,0,none⟩=some (.string (txt o.name)):=E.out.cell 0
   refine hfRdy 4 (by kernel_rfl) rfl fun K hK=>?_
   go_simp
   have G_:=zh (G.out.alloc (Nat.le_of_lt (show g7<v1.heap.size from D.out.lt)) (.cells #[.string (txt o.name),.int .u32 key] 54))
   have N:=zh (Blk.new v1 54 #[.string (txt o.name),.int .u32 key])
   have D_:=zh (D.out.alloc (.cells #[.string (txt o.name),.int .u32 key] 54))
   have E_:=zh (E.out.alloc (.cells #[.string (txt o.name),.int .u32 key] 54))
   have hne:=zh (show v1.heap.size≠g7 by have:=D.out.lt;omega)
   refine hK.out _ _ (fun _=>E_.out.cell 0) ?_
   clear hK K S0 G D E
   try simp only[Act.put,sAp,sA0,sAs]
   try rw[show w5.drew.heap.size=w5.heap.size from rfl]
   obtain⟨gu,e1⟩:∃ gu,gu=v1.heap.size:=⟨_,rfl⟩
   rw[← e1] at N hne ⊢
   clear e1
   generalize (v1.alloc (.cells #[.string (txt o.name),.int .u32 key] 54))=v2 at *
   have G:=G_
   have D:=D_
   have E:=E_
   clear G_ D_ E_
   have S0:v2.cell? ⟨W.heap.size,0,none⟩=some (.string (txt o.name)):=E.out.cell 0
   refine hfTake 7 (v:=?_) ?_ S0 ?_
   rotate_left
   ·(intro _ h;(try dsimp only at h);go_simp<;>with_reducible rfl)
   try simp only[Act.put,sAp,sA0,sAs]
   refine hfRdy 8 (by kernel_rfl) rfl fun K hK=>?_
   have x0:v2.cell? ⟨g7,2,none⟩=some nilS:=D.out.cell 2
   have f0:v2.frozen? ⟨g7,2,none⟩=false:=D.out.frozen 2
   go_simp
   have KK:=(Kept.refl (fun k=>k≠g7) v2).setCell (p:=⟨g7,2,none⟩) (fun h=>h rfl) (.slice (some ⟨gu,0,none⟩) 1 1)
   have G_:=zh (show Below g7 w4 (v2.setCell ⟨g7,2,none⟩ (.slice (some ⟨gu,0,none⟩) 1 1)) from G.out.setCell (by simp) _)
   have D_:=zh (show Blk (v2.setCell ⟨g7,2,none⟩ (.slice (some ⟨gu,0,none⟩) 1 1)) g7 48 (obCells (clOb o.name key) (.slice (some ⟨gu,0,none⟩) 1 1) nilS vC vE) from D.out.set_ 2 (.slice (some ⟨gu,0,none⟩) 1 1))
   have E_:=zh (E.out.kept KK hne1.out)
   have N_:=zh (N.out.kept KK hne.out)
   refine hK.out _ _ (fun h=>absurd rfl h) ?_
   clear hK K S0 G D E KK x0 f0 N
   try simp only[Act.put,sAp,sA0,sAs]
   generalize v2.setCell _ _=v3 at *
   have G:=G_
   have D:=D_
   have E:=E_
   have N:=N_
   clear G_ D_ E_ N_
   refine wpAnyF_done (by kernel_rfl) ?_ _
   go_wp2_with fail
   go_meet
   exact⟨gu,zh ⟨D.out,N.out,G.out⟩⟩
 case rest=>
  obtain⟨gu,hC⟩:=hcut
  have L2:=zh hC.out.1
  have hb:Below w4.heap.size w4 wc:=by rw[hg7h.out];exact hC.out.2.2
  have P2:Hid (ObParts wc (clOb o.name key) (.slice (some ⟨gu,0,none⟩) 1 1) nilS vC vE):=zh ⟨urow_one hC.out.2.1,(P4.out.below hb).descs,(P4.out.below hb).code,(P4.out.below hb).entries⟩
  have L1:=zh (L1w4.out.below hb L1w4.out.lt)
  have P1:Hid (ObParts wc o _ _ _ _):=zh (P1w4.out.below hb)
  have BB:Hid (Below W.heap.size W wc):=zh (BBw4.out.trans (hb.mono BBw4.out.size))
  have hcl:=zh (show (clOb o.name key).uses.length=1 from rfl)
  clear hC hb P4 L1w4 P1w4 BBw4 B45 hg7h hne1 hsz5
  have EN:=zh (key_encode (clOb o.name key) (.slice (some ⟨gu,0,none⟩) 1 1) nilS vC vE wc P2.out hcf.out)
  rcases enc_cases (clOb o.name key) with ⟨g2,l2,hres⟩ | ⟨er,her,hres⟩
  rotate_left
  ·rw[hres] at EN
   clear hres
   have he1:(er==0)=false:=by rw[beq_eq_false_iff_ne];exact her
   have he2:(er != 0)=true:=by rw[bne_iff_ne];exact her
   go_wp2_with (refine wpList_load_rowk rfl 48 (.tmp 7) rfl g7 rfl 48 (obCells (clOb o.name key) (.slice (some ⟨gu,0,none⟩) 1 1) nilS vC vE) (0,0) _ L2.out Tryz.underlying48 rfl (by kernel_rfl) ?_)
   refine EN.out.mono ?_
   rintro e w6 ⟨rfl,hb⟩
   replace BB:=zh (BB.out.trans (hb.mono BB.out.size))
   clear hb
   go_wp2_with fail
   refine(WK _).out.mono ?_
   rintro e w9 ⟨rfl,hb⟩
   have BB9:=zh (BB.out.trans (hb.mono BB.out.size))
   clear hb
   go_wp2_with fail
   go_ret
   exact⟨rfl,BB9.out⟩
  rw[hres] at EN
  clear hres
  go_wp2_with (refine wpList_load_rowk rfl 48 (.tmp 7) rfl g7 rfl 48 (obCells (clOb o.name key) (.slice (some ⟨gu,0,none⟩) 1 1) nilS vC vE) (0,0) _ L2.out Tryz.underlying48 rfl (by kernel_rfl) ?_)
  refine EN.out.mono ?_
  rintro e w6 ⟨rfl,hb⟩
  replace L1:=zh (L1.out.below hb L1.out.lt)
  replace P1:=zh (P1.out.below hb)
  replace BB:=zh (BB.out.trans (hb.mono BB.out.size))
  clear hb
  clear EN L2 P2 hcl
  have hns:=txt_size o.name
  have hnl:=name_len g1
  have hadd:IntKind.i64.wrap ((o.name.length:Int)+4)=o.name.length+4:=by rw[IntKind.wrap_i64];omega
  have c0:w6.cell? ⟨W.heap.size,0,none⟩=some (.string (txt o.name)):=L1.out.cell 0
  by_cases hlen:(24:Int)<o.name.length+4
  ·go_wp2_with fail
   refine(WK _).out.mono ?_
   rintro e w9 ⟨rfl,hb⟩
   have BB9:=zh (BB.out.trans (hb.mono BB.out.size))
   clear hb
   go_wp2_with fail
   go_ret
   exact⟨rfl,BB9.out⟩
  have hk:Hid (KeyOk o key):=zh ⟨hne.out,hu0.out,g1,l1,g2,l2,by omega⟩
  have hb:=(Below.refl w6.heap.size w6).alloc (Nat.le_refl _) (.cells #[.string (txt o.name++⟨#[46,79,98,106]⟩),.string (txt (encO o)),.string ⟨#[67,108,105,101,110,116,46,79,98,106]⟩,.string (txt (encO (clOb o.name key)))] 56)
  have ST:=zh (key_stores hk.out (w6.alloc (.cells #[.string (txt o.name++⟨#[46,79,98,106]⟩),.string (txt (encO o)),.string ⟨#[67,108,105,101,110,116,46,79,98,106]⟩,.string (txt (encO (clOb o.name key)))] 56)) w6.heap.size 56 (Blk.new _ _ _))
  have L7:=zh (L1.out.below hb L1.out.lt)
  have BB7:=zh (BB.out.trans (hb.mono BB.out.size))
  clear hb L1 P1 BB g1 g2 l1 l2 hne hu0
  go_wp2_with fail
  refine ST.out.mono ?_
  rintro e w7 ⟨p,q,rfl,hS,hb⟩
  have L1:=zh (L7.out.below hb L7.out.lt)
  have BB:=zh (BB7.out.trans (hb.mono BB7.out.size))
  have hS:=zh hS
  clear hb ST L7 BB7 c0 hadd hnl hlen
  by_cases hkey:o.key=key
  ·subst hkey
   have OR:=zh (key_order_ok hk.out rfl w7 hS.out)
   go_wp2_with fail
   refine OR.out.mono ?_
   rintro e w8 ⟨v,rfl,hsr,hb⟩
   have hsr:=zh hsr
   replace L1:=zh (L1.out.below hb L1.out.lt)
   replace BB:=zh (BB.out.trans (hb.mono BB.out.size))
   clear hb
   clear OR hS hk
   have c0:w8.cell? ⟨W.heap.size,0,none⟩=some (.string (txt o.name)):=L1.out.cell 0
   have c1:w8.cell? ⟨W.heap.size,1,none⟩=some (.int .u32 o.key):=L1.out.cell 1
   have hb:=(Below.refl w8.heap.size w8).alloc (Nat.le_refl _) (.cells #[.string (txt o.name),.string ⟨#[67,108,105,101,110,116]⟩] 9)
   have BB9:=zh (BB.out.trans (hb.mono BB.out.size))
   have KT:=keep_texts v (.slice (some ⟨w8.heap.size,0,none⟩) 2 2) [txt o.name,⟨#[67,108,105,101,110,116]⟩] [txt o.name,⟨#[67,108,105,101,110,116]⟩] (w8.alloc (.cells #[.string (txt o.name),.string ⟨#[67,108,105,101,110,116]⟩] 9)) (hsr.out.below hb) (srow_two (Blk.new _ _ _))
   rw[show decide ([txt o.name,⟨#[67,108,105,101,110,116]⟩]=[txt o.name,(⟨#[67,108,105,101,110,116]⟩:ByteArray)])=true from decide_eq_true rfl] at KT
   have KT:=zh KT
   clear hb BB
   go_wp2_with fail
   refine KT.out.mono ?_
   rintro e w9 ⟨rfl,hk9⟩
   have BB:=zh (BB9.out.trans (hk9.all_below.mono BB9.out.size))
   clear hk9 KT BB9 c0 c1
   go_wp2_with fail
   refine(WK _).out.mono ?_
   rintro e wz ⟨rfl,hb⟩
   have BBz:=zh (BB.out.trans (hb.mono BB.out.size))
   clear hb
   go_wp2_with fail
   go_ret
   exact⟨rfl,BBz.out⟩
  ·have OR:=zh (key_order_no hk.out hkey w7 hS.out)
   have k1:(key==o.key)=false:=by rw[beq_eq_false_iff_ne];exact fun e=>hkey e.symm
   have k2:(key != o.key)=true:=by rw[bne_iff_ne];exact fun e=>hkey e.symm
   go_wp2_with fail
   refine OR.out.mono ?_
   rintro e w8 ⟨rfl,hb⟩
   replace L1:=zh (L1.out.below hb L1.out.lt)
   replace BB:=zh (BB.out.trans (hb.mono BB.out.size))
   clear hb
   clear OR hS hk hkey
   have c1:w8.cell? ⟨W.heap.size,1,none⟩=some (.int .u32 o.key):=L1.out.cell 1
   go_wp2_with fail
   refine(WK _).out.mono ?_
   rintro e w9 ⟨rfl,hb⟩
   have BB9:=zh (BB.out.trans (hb.mono BB.out.size))
   clear hb
   go_wp2_with fail
   go_ret
   exact⟨rfl,BB9.out⟩
end Go.Proofs.YtceflhffilldeaaGreat
