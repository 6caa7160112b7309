/-
  Joined: ZTkD.
-/
import Derived.Test.YtceflhffilldeaaGreatZTkB
set_option linter.unusedVariables false
set_option linter.unusedSimpArgs false
set_option maxRecDepth 100000
set_option maxHeartbeats 16000000
namespace Go.Proofs.YtceflhffilldeaaGreat
open Go.RowKit ObjL
def TkAt (B tk p:Nat) (s:List UInt8) (w:World) (o:Ob) (dv:List DV) (st:Lft):Prop:=
 ∃ vU vD vC vE,Blk w tk 193 (tkCells p o.name o.key vU vD o.data o.strings vC vE o.calls o.places)∧TkRows B w o.uses dv o.code o.entries vU vD vC vE∧o.descs=dv.map (·.1)∧RdIs rdT w p s st
def TkK (B:Nat) (w w':World):Prop:=KeepB tkBad w w'∧Below B w w'
theorem TkK.refl (B:Nat) (w:World):TkK B w w:=⟨KeepB.refl _ _,Below.refl _ _⟩
theorem TkK.trans {B:Nat} {a b c:World} (h:TkK B a b) (k:TkK B b c):TkK B a c:=⟨h.1.trans k.1,h.2.trans k.2⟩
theorem TkK.drew_ (B:Nat) (w:World):TkK B w w.drew:=⟨(KeepB.refl _ _).drew,(Below.refl _ _).drew⟩
theorem TkAt.rd {B tk p:Nat} {s:List UInt8} {w w':World} {o:Ob} {dv:List DV} {st st':Lft} (h:TkAt B tk p s w o dv st) (hr:RdIs rdT w' p s st') (hk:RdK p w w') (hp:B≤p):TkAt B tk p s w' o dv st'∧TkK B w w':=by
 obtain⟨vU,vD,vC,vE,h1,h2,h3,h4⟩:=h
 have KB:=KeepB.rdk h4 hk
 exact⟨⟨vU,vD,vC,vE,h1.keepB KB (by decide),h2.keepB KB ⟨by decide,by decide,by decide,by decide,by decide⟩,h3,hr⟩,KB.tk (by decide),hk.to_below hp h4.lt⟩
theorem TkAt.below {B tk p:Nat} {s:List UInt8} {w w':World} {o:Ob} {dv:List DV} {st:Lft} (h:TkAt B tk p s w o dv st) (hb:Below w.heap.size w w'):TkAt B tk p s w' o dv st:=by
 obtain⟨vU,vD,vC,vE,h1,h2,h3,h4⟩:=h
 have KB:KeepB rdBad w w':=KeepB.of_below hb
 exact⟨vU,vD,vC,vE,h1.keepB KB (by decide),h2.keepB KB ⟨by decide,by decide,by decide,by decide,by decide⟩,h3,h4.below hb⟩
theorem TkAt.c0 {B tk p:Nat} {s:List UInt8} {w:World} {o:Ob} {dv:List DV} {st:Lft} (h:TkAt B tk p s w o dv st):w.cell? ⟨tk,0,none⟩=some (.pointer (some ⟨p,0,none⟩)):=by
 obtain⟨vU,vD,vC,vE,h1,-⟩:=h
 exact h1.cell 0
theorem TkAt.has {B tk p:Nat} {s:List UInt8} {w:World} {o:Ob} {dv:List DV} {st:Lft} (h:TkAt B tk p s w o dv st) (i:Nat) (hi:i<11):(∃ x,w.cell? ⟨tk,i,none⟩=some x)∧w.frozen? ⟨tk,i,none⟩=false:=by
 obtain⟨vU,vD,vC,vE,h1,-⟩:=h
 exact⟨⟨_,(h1.cell i).trans (Array.getElem?_eq_getElem (by simpa [tkCells] using hi))⟩,h1.frozen i⟩
theorem TkAt.rdis {B tk p:Nat} {s:List UInt8} {w:World} {o:Ob} {dv:List DV} {st:Lft} (h:TkAt B tk p s w o dv st):RdIs rdT w p s st:=by
 obtain⟨vU,vD,vC,vE,h1,h2,h3,h4⟩:=h
 exact h4
theorem TkAt.set_ {B tk p:Nat} {s:List UInt8} {w:World} {o o':Ob} {dv:List DV} {st:Lft} (h:TkAt B tk p s w o dv st) (hB:B≤tk) (i:Nat) (u:Value)
  (he:∀ vU vD vC vE,(tkCells p o.name o.key vU vD o.data o.strings vC vE o.calls o.places).setIfInBounds i u=tkCells p o'.name o'.key vU vD o'.data o'.strings vC vE o'.calls o'.places)
  (h1:o'.uses=o.uses) (h2:o'.descs=o.descs) (h3:o'.code=o.code) (h4:o'.entries=o.entries):TkAt B tk p s (w.setCell ⟨tk,i,none⟩ u) o' dv st∧TkK B w (w.setCell ⟨tk,i,none⟩ u):=by
 obtain⟨vU,vD,vC,vE,q1,q2,q3,q4⟩:=h
 have KS:=(KeepB.refl (fun t=>t==193) w).setCell q1 (i:=i) (by decide) u
 refine⟨⟨vU,vD,vC,vE,by rw[← he];exact q1.set_ i u,?_,by rw[h2];exact q3,q4.keepB KS (by decide)⟩,KS.tk (by decide),(Below.refl _ _).setCell (p:=⟨tk,i,none⟩) hB u⟩
 rw[h1,h3,h4]
 exact q2.keepB KS ⟨by decide,by decide,by decide,by decide,by decide⟩
theorem tk_begin (B tk p:Nat) (s:List UInt8) (o:Ob) (dv:List DV) (st:Lft) (w:World) (h:TkAt B tk p s w o dv st) (hB:B≤tk∧B≤p) (hs:s.length≤1000000) :
  Calls Tryz.prog 103 #[.pointer (some ⟨tk,0,none⟩)] w fun e w'=>e=.returned (.tuple #[])∧∃ t x st1 st',Took rText st t st1∧Took rWord st1 x st'∧tOk s t∧wOk x∧TkAt B tk p s w' { o with name:=t,key:=x } dv st'∧TkK B w w':=by
 have RT:=zh (rd_text p s st w.drew h.rdis hs)
 have hH:=zh (h.below (Below.refl _ _).drew)
 have S0:w.drew.cell? ⟨tk,0,none⟩=some (.pointer (some ⟨p,0,none⟩)):=h.c0
 clear h
 go_enter Tryz.func103,Tryz.ntmps103
 refine wp_region_F (fun w'=>w'.cell? ⟨tk,0,none⟩=some (.pointer (some ⟨p,0,none⟩))) 19 (by kernel_rfl) ?_
 refine hfTake 0 (v:=?_) ?_ (by assumption) ?_
 rotate_left
 ·(intro _ h;(try dsimp only at h);go_simp<;>with_reducible rfl)
 try simp only[Act.put,sAp,sA0,sAs]
 refine hfTake 1 (v:=?_) ?_ (by assumption) ?_
 rotate_left
 ·(intro _ h;(try dsimp only at h);go_simp<;>with_reducible rfl)
 try simp only[Act.put,sAp,sA0,sAs]
 refine hfTake 2 (v:=?_) ?_ (by assumption) ?_
 rotate_left
 ·(intro _ h;(try dsimp only at h);go_simp<;>with_reducible rfl)
 try simp only[Act.put,sAp,sA0,sAs]
 refine hfTake 3 (v:=?_) ?_ (by assumption) ?_
 rotate_left
 ·(intro _ h;(try dsimp only at h);go_simp<;>with_reducible rfl)
 try simp only[Act.put,sAp,sA0,sAs]
 refine hfTake 4 (v:=?_) ?_ (by assumption) ?_
 rotate_left
 ·(intro _ h;(try dsimp only at h);go_simp<;>with_reducible rfl)
 try simp only[Act.put,sAp,sA0,sAs]
 refine hfTake 5 (v:=?_) ?_ (by assumption) ?_
 rotate_left
 ·(intro _ h;(try dsimp only at h);go_simp<;>with_reducible rfl)
 try simp only[Act.put,sAp,sA0,sAs]
 refine hfTake 7 (v:=?_) ?_ (by assumption) ?_
 rotate_left
 ·(intro _ h;(try dsimp only at h);go_simp<;>with_reducible rfl)
 try simp only[Act.put,sAp,sA0,sAs]
 refine hfTake 8 (v:=?_) ?_ (by assumption) ?_
 rotate_left
 ·(intro _ h;(try dsimp only at h);go_simp<;>with_reducible rfl)
 try simp only[Act.put,sAp,sA0,sAs]
 refine hfTake 9 (v:=?_) ?_ (by assumption) ?_
 rotate_left
 ·(intro _ h;(try dsimp only at h);go_simp<;>with_reducible rfl)
 try simp only[Act.put,sAp,sA0,sAs]
 refine hfTake 10 (v:=?_) ?_ (by assumption) ?_
 rotate_left
 ·(intro _ h;(try dsimp only at h);go_simp<;>with_reducible rfl)
 try simp only[Act.put,sAp,sA0,sAs]
 refine hfRdy 6 (by kernel_rfl) rfl fun K hK=>?_
 go_simp
 refine RT.out.mono ?_
 rintro e w1 ⟨t,st1,rfl,h1,h2,h3,h4⟩
 obtain⟨hA,hKA⟩:=hH.out.rd h2 h3 hB.2
 have hKA:TkK B w w1:=(TkK.drew_ B w).trans hKA
 have S1:=hA.c0
 have RW:=zh (rd_word p s st1 w1 h2 hs)
 have hA:=zh hA
 have hKA:=zh hKA
 have h1:=zh h1
 have h4:=zh h4
 clear h2 h3
 unfold tVal
 refine hK.out _ _ (fun _=>S1) ?_
 clear hK K S0
 try simp only[Act.put,sAp,sA0,sAs]
 refine hfRdy 11 (by kernel_rfl) rfl fun K hK=>?_
 go_simp
 refine RW.out.mono ?_
 rintro e w2 ⟨x,st',rfl,y1,y2,y3,y4⟩
 obtain⟨hA2,hKA2⟩:=hA.out.rd y2 y3 hB.2
 have S2:=hA2.c0
 obtain⟨⟨x1,e1⟩,f1⟩:=hA2.has 1 (by decide)
 have hA2:=zh hA2
 have hKA2:=zh (hKA.out.trans hKA2)
 have y1:=zh y1
 have y4:=zh y4
 clear y2 y3
 refine hK.out _ _ (fun _=>S2) ?_
 clear hK K S1
 try simp only[Act.put,sAp,sA0,sAs]
 refine hfRdy 12 (by kernel_rfl) rfl fun K hK=>?_
 go_simp
 refine hK.out _ _ (fun _=>S2) ?_
 clear hK K
 try simp only[Act.put,sAp,sA0,sAs]
 refine hfRdy 13 (by kernel_rfl) rfl fun K hK=>?_
 go_simp
 refine hK.out _ _ (fun _=>S2) ?_
 clear hK K
 try simp only[Act.put,sAp,sA0,sAs]
 refine hfRdy 14 (by kernel_rfl) rfl fun K hK=>?_
 go_simp
 refine hK.out _ _ (fun _=>S2) ?_
 clear hK K
 try simp only[Act.put,sAp,sA0,sAs]
 refine hfRdy 15 (by kernel_rfl) rfl fun K hK=>?_
 go_simp
 obtain⟨hA3,hKA3⟩:=hA2.out.set_ (o':={ o with name:=t }) hB.1 1 (.string (txt t)) (fun _ _ _ _=>rfl) rfl rfl rfl rfl
 have S3:=hA3.c0
 obtain⟨⟨x2,e2⟩,f2⟩:=hA3.has 2 (by decide)
 have hA3:=zh hA3
 have hKA3:=zh (hKA2.out.trans hKA3)
 refine hK.out _ _ (fun _=>S3) ?_
 clear hK K S2 e1 f1
 try simp only[Act.put,sAp,sA0,sAs]
 generalize w2.setCell ⟨tk,1,none⟩ (.string (txt t))=w3 at *
 refine hfRdy 16 (by kernel_rfl) rfl fun K hK=>?_
 go_simp
 refine hK.out _ _ (fun _=>S3) ?_
 clear hK K
 try simp only[Act.put,sAp,sA0,sAs]
 refine hfRdy 17 (by kernel_rfl) rfl fun K hK=>?_
 go_simp
 refine hK.out _ _ (fun _=>S3) ?_
 clear hK K
 try simp only[Act.put,sAp,sA0,sAs]
 refine hfRdy 18 (by kernel_rfl) rfl fun K hK=>?_
 go_simp
 refine hK.out _ _ (fun _=>S3) ?_
 clear hK K
 try simp only[Act.put,sAp,sA0,sAs]
 refine hfRdy 19 (by kernel_rfl) rfl fun K hK=>?_
 go_simp
 refine hK.out _ _ (fun h=>absurd rfl h) ?_
 clear hK K
 try simp only[Act.put,sAp,sA0,sAs]
 refine wpAnyF_done (by kernel_rfl) ?_ _
 obtain⟨hA4,hKA4⟩:=hA3.out.set_ (o':={ o with name:=t,key:=x }) hB.1 2 (.int .u32 x) (fun _ _ _ _=>rfl) rfl rfl rfl rfl
 have hA4:=zh hA4
 have hKA4:=zh (hKA3.out.trans hKA4)
 go_wp2_with fail
 go_end0
 exact⟨rfl,t,x,st1,st',h1.out,y1.out,h4.out,y4.out,hA4.out,hKA4.out⟩
theorem tk_data (B tk p:Nat) (s:List UInt8) (o:Ob) (dv:List DV) (st:Lft) (w:World) (h:TkAt B tk p s w o dv st) (hB:B≤tk∧B≤p) (hs:s.length≤1000000) :
  Calls Tryz.prog 106 #[.pointer (some ⟨tk,0,none⟩)] w fun e w'=>e=.returned (.tuple #[])∧∃ d n t st1 st2 st',Took rNum st d st1∧Took rNum st1 n st2∧Took (rRaw n) st2 t st'∧nOk d∧tOk s t∧TkAt B tk p s w' { o with data:=d,strings:=t } dv st'∧TkK B w w':=by
 have RT:=zh (rd_num p s st w h.rdis hs)
 have hH:=zh h
 have c0:=h.c0
 clear h
 go_enter Tryz.func106,Tryz.ntmps106
 go_wp2_with fail
 refine RT.out.mono ?_
 rintro e w1 ⟨d,st1,rfl,h1,h2,h3,h4⟩
 obtain⟨hA,hKA⟩:=hH.out.rd h2 h3 hB.2
 obtain⟨⟨x1,e1⟩,f1⟩:=hA.has 5 (by decide)
 obtain⟨hA2,hKA2⟩:=hA.set_ (o':={ o with data:=d }) hB.1 5 (.int .i64 d) (fun _ _ _ _=>rfl) rfl rfl rfl rfl
 have hA2:=zh hA2
 have hKA2:=zh (hKA.trans hKA2)
 have h1:=zh h1
 have h4:=zh h4
 clear h2 h3 hA hKA c0
 go_upto_region 1 with fail
 generalize w1.setCell ⟨tk,5,none⟩ (.int .i64 d)=wa at *
 have hA2:Hid (TkAt B tk p s wa.drew { o with data:=d } dv st1):=zh (hA2.out.below (Below.refl _ _).drew)
 have S0:wa.drew.cell? ⟨tk,0,none⟩=some (.pointer (some ⟨p,0,none⟩)):=hA2.out.c0
 have RN:=zh (rd_num p s st1 wa.drew hA2.out.rdis hs)
 clear e1 f1
 refine wp_region_F (fun w'=>w'.cell? ⟨tk,0,none⟩=some (.pointer (some ⟨p,0,none⟩))) 14 (by kernel_rfl) ?_
 refine hfTake 0 (v:=?_) ?_ (by assumption) ?_
 rotate_left
 ·(intro _ h;(try dsimp only at h);go_simp<;>with_reducible rfl)
 try simp only[Act.put,sAp,sA0,sAs]
 refine hfTake 1 (v:=?_) ?_ (by assumption) ?_
 rotate_left
 ·(intro _ h;(try dsimp only at h);go_simp<;>with_reducible rfl)
 try simp only[Act.put,sAp,sA0,sAs]
 refine hfTake 2 (v:=?_) ?_ (by assumption) ?_
 rotate_left
 ·(intro _ h;(try dsimp only at h);go_simp<;>with_reducible rfl)
 try simp only[Act.put,sAp,sA0,sAs]
 refine hfTake 3 (v:=?_) ?_ (by assumption) ?_
 rotate_left
 ·(intro _ h;(try dsimp only at h);go_simp<;>with_reducible rfl)
 try simp only[Act.put,sAp,sA0,sAs]
 refine hfTake 4 (v:=?_) ?_ (by assumption) ?_
 rotate_left
 ·(intro _ h;(try dsimp only at h);go_simp<;>with_reducible rfl)
 try simp only[Act.put,sAp,sA0,sAs]
 refine hfTake 5 (v:=?_) ?_ (by assumption) ?_
 rotate_left
 ·(intro _ h;(try dsimp only at h);go_simp<;>with_reducible rfl)
 try simp only[Act.put,sAp,sA0,sAs]
 refine hfTake 6 (v:=?_) ?_ (by assumption) ?_
 rotate_left
 ·(intro _ h;(try dsimp only at h);go_simp<;>with_reducible rfl)
 try simp only[Act.put,sAp,sA0,sAs]
 refine hfTake 7 (v:=?_) ?_ (by assumption) ?_
 rotate_left
 ·(intro _ h;(try dsimp only at h);go_simp<;>with_reducible rfl)
 try simp only[Act.put,sAp,sA0,sAs]
 refine hfTake 8 (v:=?_) ?_ (by assumption) ?_
 rotate_left
 ·(intro _ h;(try dsimp only at h);go_simp<;>with_reducible rfl)
 try simp only[Act.put,sAp,sA0,sAs]
 refine hfRdy 9 (by kernel_rfl) rfl fun K hK=>?_
 go_simp
 refine RN.out.mono ?_
 rintro e w2 ⟨n,st2,rfl,y1,y2,y3,y4⟩
 obtain⟨hA3,hKA3⟩:=hA2.out.rd y2 y3 hB.2
 have hKA3:TkK B wa w2:=(TkK.drew_ B wa).trans hKA3
 have S2:=hA3.c0
 have hA3:=zh hA3
 have hKA3:=zh (hKA2.out.trans hKA3)
 have RR:=zh (rd_raw p s st2 n w2 y2 hs (by unfold nOk at y4;unfold I64;omega))
 have y1:=zh y1
 have y4:=zh y4
 clear y2 y3
 refine hK.out _ _ (fun _=>S2) ?_
 clear hK K S0
 try simp only[Act.put,sAp,sA0,sAs]
 refine hfRdy 10 (by kernel_rfl) rfl fun K hK=>?_
 go_simp
 refine RR.out.mono ?_
 rintro e w3 ⟨t,st',rfl,z1,z2,z3,z4⟩
 obtain⟨hA4,hKA4⟩:=hA3.out.rd z2 z3 hB.2
 have S3:=hA4.c0
 obtain⟨⟨x6,e6⟩,f6⟩:=hA4.has 6 (by decide)
 have hA4:=zh hA4
 have hKA4:=zh (hKA3.out.trans hKA4)
 have z1:=zh z1
 have z4:=zh z4
 clear z2 z3
 unfold tVal
 refine hK.out _ _ (fun _=>S3) ?_
 clear hK K S2
 try simp only[Act.put,sAp,sA0,sAs]
 refine hfRdy 11 (by kernel_rfl) rfl fun K hK=>?_
 go_simp
 refine hK.out _ _ (fun _=>S3) ?_
 clear hK K
 try simp only[Act.put,sAp,sA0,sAs]
 refine hfRdy 12 (by kernel_rfl) rfl fun K hK=>?_
 go_simp
 refine hK.out _ _ (fun _=>S3) ?_
 clear hK K
 try simp only[Act.put,sAp,sA0,sAs]
 refine hfRdy 13 (by kernel_rfl) rfl fun K hK=>?_
 go_simp
 refine hK.out _ _ (fun _=>S3) ?_
 clear hK K
 try simp only[Act.put,sAp,sA0,sAs]
 refine hfRdy 14 (by kernel_rfl) rfl fun K hK=>?_
 go_simp
 refine hK.out _ _ (fun h=>absurd rfl h) ?_
 clear hK K
 try simp only[Act.put,sAp,sA0,sAs]
 refine wpAnyF_done (by kernel_rfl) ?_ _
 obtain⟨hA5,hKA5⟩:=hA4.out.set_ (o':={ o with data:=d,strings:=t }) hB.1 6 (.string (txt t)) (fun _ _ _ _=>rfl) rfl rfl rfl rfl
 have hA5:=zh hA5
 have hKA5:=zh (hKA4.out.trans hKA5)
 go_wp2_with fail
 go_end0
 exact⟨rfl,d,n,t,st1,st2,st',h1.out,y1.out,z1.out,h4.out,z4.out,hA5.out,hKA5.out⟩
theorem tk_uses (B tk p:Nat) (s:List UInt8) (o:Ob) (dv:List DV) (st:Lft) (w:World) (h:TkAt B tk p s w o dv st) (hB:B≤tk∧B≤p) (hs:s.length≤1000000) (h0:o.uses=[]) :
  Calls Tryz.prog 104 #[.pointer (some ⟨tk,0,none⟩)] w fun e w'=>e=.returned (.tuple #[])∧∃ (n:Int) (l:List (List UInt8×Int)) (st1 st':Lft),Took rNum st n st1∧Took (many rUse n.toNat) st1 l st'∧(∀ x∈l,tOk s x.1∧wOk x.2)∧TkAt B tk p s w' { o with uses:=l } dv st'∧TkK B w w':=by
 have hbx:=zh (Blk.new w 189 #[.pointer (some ⟨tk,0,none⟩)])
 have hA:=zh (h.below ((Below.refl w.heap.size w).alloc (Nat.le_refl _) (.cells #[.pointer (some ⟨tk,0,none⟩)] 189)))
 have hKA:Hid (TkK B w (w.alloc (.cells #[.pointer (some ⟨tk,0,none⟩)] 189))):=zh (by
  have hb:=(Below.refl w.heap.size w).alloc (Nat.le_refl _) (.cells #[.pointer (some ⟨tk,0,none⟩)] 189)
  exact⟨KeepB.of_below hb,hb.mono (by have:=h.rdis.lt;omega)⟩)
 clear h
 go_enter Tryz.func104,Tryz.ntmps104
 go_upto_region 1 with fail
 generalize w.heap.size=tb at *
 generalize w.alloc (.cells #[.pointer (some ⟨tk,0,none⟩)] 189)=wa at *
 have c0:wa.cell? ⟨tb,0,none⟩=some (.pointer (some ⟨tk,0,none⟩)):=hbx.out.cell 0
 have EA:=zh (tk_each 136 #[.pointer (some ⟨tb,0,none⟩)] tk p s st wa
  (fun n k sk W=>∃ (l:List (List UInt8×Int)) (st1:Lft),l.length=k∧Blk W tb 189 #[.pointer (some ⟨tk,0,none⟩)]∧TkAt B tk p s W { o with uses:=l } dv sk∧Took rNum st n st1∧Took (many rUse k) st1 l sk∧(∀ x∈l,tOk s x.1∧wOk x.2)∧TkK B w W)
  (fun W=>by rfl) hs hA.out.rdis hA.out.c0
  (fun n k sk W h=>by obtain⟨l,st1,q1,q2,q3,q4,q5,q6,q7⟩:=h;exact⟨q3.rdis,q3.c0⟩)
  (fun n sk W ht hn0 hr hk=>by
   obtain⟨y1,y2⟩:=hA.out.rd hr hk hB.2
   refine⟨[],sk,rfl,hbx.out.keepB y2.1 (by decide),?_,ht,took_zero _ _,fun x hx=>absurd hx (by simp),hKA.out.trans y2⟩
   obtain⟨vU,vD,vC,vE,z1,z2,z3,z4⟩:=y1
   rw[h0] at z2
   exact⟨vU,vD,vC,vE,z1,z2,z3,z4⟩)
  (fun n k r2 W hn0 hk h=>by
   obtain⟨l,st1,q1,q2,⟨vU,vD,vC,vE,z1,z2,z3,z4⟩,q4,q5,q6,q7⟩:=h
   subst q1
   refine(tk_uses1 B tb tk p s r2 _ _ _ _ _ _ _ _ _ _ vU vD vC vE W q2 z1 z4 z2 hB hs (by have hll:l.length≤2147483647:=(by unfold nOk at hn0;omega);exact hll)).mono ?_
   rintro e W' ⟨rfl,x,st',v',y1,y2,y3,y4,y5,y6,y7⟩
   refine⟨rfl,st',l++[x],st1,by simp,q2.keepB y6 (by decide),⟨v',vD,vC,vE,y4,y5,z3,y3⟩,q4,took_snoc q5 y1,fun z hz=>?_,q7.trans ⟨y6,y7⟩⟩
   rcases List.mem_append.1 hz with hz | hz
   ·exact q6 z hz
   ·rw[List.mem_singleton.1 hz];exact y2))
 go_wp2_with fail
 refine EA.out.mono ?_
 rintro e w1 ⟨rfl,n,k,st',hn1,⟨l,st1,q1,q2,q3,q4,q5,q6,q7⟩,hkn,hend⟩
 subst q1
 have hmany:Took (many rUse n.toNat) st1 l st':=by
  rcases hend with rfl | he
  ·exact took_more hkn q5
  ·rw[← he];exact q5
 have hfin:=zh (And.intro q4 (And.intro hmany (And.intro q6 (And.intro q3 q7))))
 clear q2 q3 q4 q5 q6 q7 hmany hend hkn EA c0 hn1
 go_wp2_with fail
 go_end0
 exact⟨rfl,n,l,st1,st',hfin.out.1,hfin.out.2.1,hfin.out.2.2.1,hfin.out.2.2.2.1,hfin.out.2.2.2.2⟩
theorem tk_descs (B tk p:Nat) (s:List UInt8) (o:Ob) (dv:List DV) (st:Lft) (w:World) (h:TkAt B tk p s w o dv st) (hB:B≤tk∧B≤p) (hs:s.length≤1000000) (h0:o.descs=[]∧dv=[]) :
  Calls Tryz.prog 105 #[.pointer (some ⟨tk,0,none⟩)] w fun e w'=>e=.returned (.tuple #[])∧∃ (n:Int) (dl:List DV) (st1 st':Lft),Took rNum st n st1∧Took (many (rDesc false) n.toNat) st1 (dl.map (·.1)) st'∧(∀ x∈(dl.map (·.1)),nOk x.1∧∀ e∈x.2,nOk e.1∧nOk e.2)∧TkAt B tk p s w' { o with descs:=(dl.map (·.1)) } dl st'∧TkK B w w':=by
 have hbx:=zh (Blk.new w 189 #[.pointer (some ⟨tk,0,none⟩)])
 have hA:=zh (h.below ((Below.refl w.heap.size w).alloc (Nat.le_refl _) (.cells #[.pointer (some ⟨tk,0,none⟩)] 189)))
 have hKA:Hid (TkK B w (w.alloc (.cells #[.pointer (some ⟨tk,0,none⟩)] 189))):=zh (by
  have hb:=(Below.refl w.heap.size w).alloc (Nat.le_refl _) (.cells #[.pointer (some ⟨tk,0,none⟩)] 189)
  exact⟨KeepB.of_below hb,hb.mono (by have:=h.rdis.lt;omega)⟩)
 clear h
 go_enter Tryz.func105,Tryz.ntmps105
 go_upto_region 1 with fail
 generalize w.heap.size=tb at *
 generalize w.alloc (.cells #[.pointer (some ⟨tk,0,none⟩)] 189)=wa at *
 have c0:wa.cell? ⟨tb,0,none⟩=some (.pointer (some ⟨tk,0,none⟩)):=hbx.out.cell 0
 have EA:=zh (tk_each 137 #[.pointer (some ⟨tb,0,none⟩)] tk p s st wa
  (fun n k sk W=>∃ (dl:List DV) (st1:Lft),dl.length=k∧Blk W tb 189 #[.pointer (some ⟨tk,0,none⟩)]∧TkAt B tk p s W { o with descs:=(dl.map (·.1)) } dl sk∧Took rNum st n st1∧Took (many (rDesc false) k) st1 (dl.map (·.1)) sk∧(∀ x∈(dl.map (·.1)),nOk x.1∧∀ e∈x.2,nOk e.1∧nOk e.2)∧TkK B w W)
  (fun W=>by rfl) hs hA.out.rdis hA.out.c0
  (fun n k sk W h=>by obtain⟨dl,st1,q1,q2,q3,q4,q5,q6,q7⟩:=h;exact⟨q3.rdis,q3.c0⟩)
  (fun n sk W ht hn0 hr hk=>by
   obtain⟨y1,y2⟩:=hA.out.rd hr hk hB.2
   refine⟨[],sk,rfl,hbx.out.keepB y2.1 (by decide),?_,ht,took_zero _ _,fun x hx=>absurd hx (by simp),hKA.out.trans y2⟩
   obtain⟨vU,vD,vC,vE,z1,z2,z3,z4⟩:=y1
   rw[h0.2] at z2
   exact⟨vU,vD,vC,vE,z1,z2,rfl,z4⟩)
  (fun n k r2 W hn0 hk h=>by
   obtain⟨dl,st1,q1,q2,⟨vU,vD,vC,vE,z1,z2,z3,z4⟩,q4,q5,q6,q7⟩:=h
   subst q1
   refine(tk_descs1 B tb tk p s r2 _ _ _ _ _ _ _ _ _ _ vU vD vC vE W q2 z1 z4 z2 hB hs (by have hll:dl.length≤2147483647:=(by unfold nOk at hn0;omega);exact hll)).mono ?_
   rintro e W' ⟨rfl,x,vx,st',v',y1,y2,y3,y4,y5,y6,y7⟩
   refine⟨rfl,st',dl++[(x,vx)],st1,by simp,q2.keepB y6 (by decide),⟨vU,v',vC,vE,y4,y5,by simp,y3⟩,q4,by rw[List.map_append];exact took_snoc q5 y1,fun z hz=>?_,q7.trans ⟨y6,y7⟩⟩
   rw[List.map_append] at hz
   rcases List.mem_append.1 hz with hz | hz
   ·exact q6 z hz
   ·rw[List.mem_singleton.1 hz];exact y2))
 go_wp2_with fail
 refine EA.out.mono ?_
 rintro e w1 ⟨rfl,n,k,st',hn1,⟨dl,st1,q1,q2,q3,q4,q5,q6,q7⟩,hkn,hend⟩
 subst q1
 have hmany:Took (many (rDesc false) n.toNat) st1 (dl.map (·.1)) st':=by
  rcases hend with rfl | he
  ·exact took_more hkn q5
  ·rw[← he];exact q5
 have hfin:=zh (And.intro q4 (And.intro hmany (And.intro q6 (And.intro q3 q7))))
 clear q2 q3 q4 q5 q6 q7 hmany hend hkn EA c0 hn1
 go_wp2_with fail
 go_end0
 exact⟨rfl,n,dl,st1,st',hfin.out.1,hfin.out.2.1,hfin.out.2.2.1,hfin.out.2.2.2.1,hfin.out.2.2.2.2⟩
theorem tk_code (B tk p:Nat) (s:List UInt8) (o:Ob) (dv:List DV) (st:Lft) (w:World) (h:TkAt B tk p s w o dv st) (hB:B≤tk∧B≤p) (hs:s.length≤1000000) (h0:o.code=[]) :
  Calls Tryz.prog 107 #[.pointer (some ⟨tk,0,none⟩)] w fun e w'=>e=.returned (.tuple #[])∧∃ (n:Int) (l:List Int) (st1 st':Lft),Took rNum st n st1∧Took (many rWord n.toNat) st1 l st'∧(∀ x∈l,wOk x)∧TkAt B tk p s w' { o with code:=l } dv st'∧TkK B w w':=by
 have hbx:=zh (Blk.new w 189 #[.pointer (some ⟨tk,0,none⟩)])
 have hA:=zh (h.below ((Below.refl w.heap.size w).alloc (Nat.le_refl _) (.cells #[.pointer (some ⟨tk,0,none⟩)] 189)))
 have hKA:Hid (TkK B w (w.alloc (.cells #[.pointer (some ⟨tk,0,none⟩)] 189))):=zh (by
  have hb:=(Below.refl w.heap.size w).alloc (Nat.le_refl _) (.cells #[.pointer (some ⟨tk,0,none⟩)] 189)
  exact⟨KeepB.of_below hb,hb.mono (by have:=h.rdis.lt;omega)⟩)
 clear h
 go_enter Tryz.func107,Tryz.ntmps107
 go_upto_region 1 with fail
 generalize w.heap.size=tb at *
 generalize w.alloc (.cells #[.pointer (some ⟨tk,0,none⟩)] 189)=wa at *
 have c0:wa.cell? ⟨tb,0,none⟩=some (.pointer (some ⟨tk,0,none⟩)):=hbx.out.cell 0
 have EA:=zh (tk_each 141 #[.pointer (some ⟨tb,0,none⟩)] tk p s st wa
  (fun n k sk W=>∃ (l:List Int) (st1:Lft),l.length=k∧Blk W tb 189 #[.pointer (some ⟨tk,0,none⟩)]∧TkAt B tk p s W { o with code:=l } dv sk∧Took rNum st n st1∧Took (many rWord k) st1 l sk∧(∀ x∈l,wOk x)∧TkK B w W)
  (fun W=>by rfl) hs hA.out.rdis hA.out.c0
  (fun n k sk W h=>by obtain⟨l,st1,q1,q2,q3,q4,q5,q6,q7⟩:=h;exact⟨q3.rdis,q3.c0⟩)
  (fun n sk W ht hn0 hr hk=>by
   obtain⟨y1,y2⟩:=hA.out.rd hr hk hB.2
   refine⟨[],sk,rfl,hbx.out.keepB y2.1 (by decide),?_,ht,took_zero _ _,fun x hx=>absurd hx (by simp),hKA.out.trans y2⟩
   obtain⟨vU,vD,vC,vE,z1,z2,z3,z4⟩:=y1
   rw[h0] at z2
   exact⟨vU,vD,vC,vE,z1,z2,z3,z4⟩)
  (fun n k r2 W hn0 hk h=>by
   obtain⟨l,st1,q1,q2,⟨vU,vD,vC,vE,z1,z2,z3,z4⟩,q4,q5,q6,q7⟩:=h
   subst q1
   refine(tk_code1 B tb tk p s r2 _ _ _ _ _ _ _ _ _ _ vU vD vC vE W q2 z1 z4 z2 hB hs (by have hll:l.length≤2147483647:=(by unfold nOk at hn0;omega);exact hll)).mono ?_
   rintro e W' ⟨rfl,x,st',v',y1,y2,y3,y4,y5,y6,y7⟩
   refine⟨rfl,st',l++[x],st1,by simp,q2.keepB y6 (by decide),⟨vU,vD,v',vE,y4,y5,z3,y3⟩,q4,took_snoc q5 y1,fun z hz=>?_,q7.trans ⟨y6,y7⟩⟩
   rcases List.mem_append.1 hz with hz | hz
   ·exact q6 z hz
   ·rw[List.mem_singleton.1 hz];exact y2))
 go_wp2_with fail
 refine EA.out.mono ?_
 rintro e w1 ⟨rfl,n,k,st',hn1,⟨l,st1,q1,q2,q3,q4,q5,q6,q7⟩,hkn,hend⟩
 subst q1
 have hmany:Took (many rWord n.toNat) st1 l st':=by
  rcases hend with rfl | he
  ·exact took_more hkn q5
  ·rw[← he];exact q5
 have hfin:=zh (And.intro q4 (And.intro hmany (And.intro q6 (And.intro q3 q7))))
 clear q2 q3 q4 q5 q6 q7 hmany hend hkn EA c0 hn1
 go_wp2_with fail
 go_end0
 exact⟨rfl,n,l,st1,st',hfin.out.1,hfin.out.2.1,hfin.out.2.2.1,hfin.out.2.2.2.1,hfin.out.2.2.2.2⟩
end Go.Proofs.YtceflhffilldeaaGreat
namespace Go.Proofs.YtceflhffilldeaaGreat
open Go.RowKit ObjL
theorem tk_entries (B tk p:Nat) (s:List UInt8) (o:Ob) (dv:List DV) (st:Lft) (w:World) (h:TkAt B tk p s w o dv st) (hB:B≤tk∧B≤p) (hs:s.length≤1000000) (h0:o.entries=[]) :
  Calls Tryz.prog 108 #[.pointer (some ⟨tk,0,none⟩)] w fun e w'=>e=.returned (.tuple #[])∧∃ (n:Int) (l:List Int) (ca pl:Int) (st1 st2 st3 st':Lft),Took rNum st n st1∧Took (many rNum n.toNat) st1 l st2∧Took rNum st2 ca st3∧Took rNum st3 pl st'∧(∀ x∈l,nOk x)∧nOk ca∧nOk pl∧TkAt B tk p s w' { o with entries:=l,calls:=ca,places:=pl } dv st'∧TkK B w w':=by
 have hbx:=zh (Blk.new w 189 #[.pointer (some ⟨tk,0,none⟩)])
 have hA:=zh (h.below ((Below.refl w.heap.size w).alloc (Nat.le_refl _) (.cells #[.pointer (some ⟨tk,0,none⟩)] 189)))
 have hKA:Hid (TkK B w (w.alloc (.cells #[.pointer (some ⟨tk,0,none⟩)] 189))):=zh (by
  have hb:=(Below.refl w.heap.size w).alloc (Nat.le_refl _) (.cells #[.pointer (some ⟨tk,0,none⟩)] 189)
  exact⟨KeepB.of_below hb,hb.mono (by have:=h.rdis.lt;omega)⟩)
 clear h
 go_enter Tryz.func108,Tryz.ntmps108
 go_upto_region 1 with fail
 generalize w.heap.size=tb at *
 generalize w.alloc (.cells #[.pointer (some ⟨tk,0,none⟩)] 189)=wa at *
 have c0:wa.cell? ⟨tb,0,none⟩=some (.pointer (some ⟨tk,0,none⟩)):=hbx.out.cell 0
 have EA:=zh (tk_each 142 #[.pointer (some ⟨tb,0,none⟩)] tk p s st wa
  (fun n k sk W=>∃ (l:List Int) (st1:Lft),l.length=k∧Blk W tb 189 #[.pointer (some ⟨tk,0,none⟩)]∧TkAt B tk p s W { o with entries:=l } dv sk∧Took rNum st n st1∧Took (many rNum k) st1 l sk∧(∀ x∈l,nOk x)∧TkK B w W)
  (fun W=>by rfl) hs hA.out.rdis hA.out.c0
  (fun n k sk W h=>by obtain⟨l,st1,q1,q2,q3,q4,q5,q6,q7⟩:=h;exact⟨q3.rdis,q3.c0⟩)
  (fun n sk W ht hn0 hr hk=>by
   obtain⟨y1,y2⟩:=hA.out.rd hr hk hB.2
   refine⟨[],sk,rfl,hbx.out.keepB y2.1 (by decide),?_,ht,took_zero _ _,fun x hx=>absurd hx (by simp),hKA.out.trans y2⟩
   obtain⟨vU,vD,vC,vE,z1,z2,z3,z4⟩:=y1
   rw[h0] at z2
   exact⟨vU,vD,vC,vE,z1,z2,z3,z4⟩)
  (fun n k r2 W hn0 hk h=>by
   obtain⟨l,st1,q1,q2,⟨vU,vD,vC,vE,z1,z2,z3,z4⟩,q4,q5,q6,q7⟩:=h
   subst q1
   refine(tk_entries1 B tb tk p s r2 _ _ _ _ _ _ _ _ _ _ vU vD vC vE W q2 z1 z4 z2 hB hs (by have hll:l.length≤2147483647:=(by unfold nOk at hn0;omega);exact hll)).mono ?_
   rintro e W' ⟨rfl,x,st',v',y1,y2,y3,y4,y5,y6,y7⟩
   refine⟨rfl,st',l++[x],st1,by simp,q2.keepB y6 (by decide),⟨vU,vD,vC,v',y4,y5,z3,y3⟩,q4,took_snoc q5 y1,fun z hz=>?_,q7.trans ⟨y6,y7⟩⟩
   rcases List.mem_append.1 hz with hz | hz
   ·exact q6 z hz
   ·rw[List.mem_singleton.1 hz];exact y2))
 go_wp2_with fail
 refine EA.out.mono ?_
 rintro e w1 ⟨rfl,n,k,st',hn1,⟨l,st1,q1,q2,q3,q4,q5,q6,q7⟩,hkn,hend⟩
 subst q1
 have hmany:Took (many rNum n.toNat) st1 l st':=by
  rcases hend with rfl | he
  ·exact took_more hkn q5
  ·rw[← he];exact q5
 have hbx1:=zh q2
 have hA1:=zh q3
 have hK1:=zh q7
 have hfin:=zh (And.intro q4 (And.intro hmany (And.intro q6 (And.intro q3 q7))))
 clear q2 q3 q4 q5 q6 q7 hmany hend hkn EA c0 hn1
 go_upto_region 2 with fail
 refine wp_region_F (fun w'=>w'.cell? ⟨tb,0,none⟩=some (.pointer (some ⟨tk,0,none⟩))∧w'.cell? ⟨tk,0,none⟩=some (.pointer (some ⟨p,0,none⟩))) 9 (by kernel_rfl) ?_
 have hA00:=zh (hA1.out.below (w':=w1.drew) (Below.refl _ _).drew)
 have hb00:=zh hbx1.out.drew
 have hK00:Hid (TkK B w w1.drew):=zh (hK1.out.trans (TkK.drew_ B w1))
 have S0:w1.drew.cell? ⟨tb,0,none⟩=some (.pointer (some ⟨tk,0,none⟩))∧w1.drew.cell? ⟨tk,0,none⟩=some (.pointer (some ⟨p,0,none⟩)):=⟨hb00.out.cell 0,hA00.out.c0⟩
 have RN:=zh (rd_num p s st' w1.drew hA00.out.rdis hs)
 clear hA1 hbx1 hK1
 generalize w1.drew=wq0 at *
 refine hfTake 0 (v:=?_) ?_ (by assumption) ?_
 rotate_left
 ·(intro _ h;obtain⟨_,_⟩:=h;go_simp<;>with_reducible rfl)
 try simp only[Act.put,sAp,sA0,sAs]
 refine hfTake 1 (v:=?_) ?_ (by assumption) ?_
 rotate_left
 ·(intro _ h;obtain⟨_,_⟩:=h;go_simp<;>with_reducible rfl)
 try simp only[Act.put,sAp,sA0,sAs]
 refine hfTake 2 (v:=?_) ?_ (by assumption) ?_
 rotate_left
 ·(intro _ h;obtain⟨_,_⟩:=h;go_simp<;>with_reducible rfl)
 try simp only[Act.put,sAp,sA0,sAs]
 refine hfTake 3 (v:=?_) ?_ (by assumption) ?_
 rotate_left
 ·(intro _ h;obtain⟨_,_⟩:=h;go_simp<;>with_reducible rfl)
 try simp only[Act.put,sAp,sA0,sAs]
 refine hfTake 4 (v:=?_) ?_ (by assumption) ?_
 rotate_left
 ·(intro _ h;obtain⟨_,_⟩:=h;go_simp<;>with_reducible rfl)
 try simp only[Act.put,sAp,sA0,sAs]
 refine hfRdy 5 (by kernel_rfl) rfl fun K hK=>?_
 go_simp
 refine RN.out.mono ?_
 rintro e w2 ⟨ca,st3,rfl,y10,y2,y3,y40⟩
 obtain⟨hA3,hKA3⟩:=hA00.out.rd y2 y3 hB.2
 have hbx3:=zh (hb00.out.keepB hKA3.1 (by decide))
 have S2:w2.cell? ⟨tb,0,none⟩=some (.pointer (some ⟨tk,0,none⟩))∧w2.cell? ⟨tk,0,none⟩=some (.pointer (some ⟨p,0,none⟩)):=⟨hbx3.out.cell 0,hA3.c0⟩
 obtain⟨⟨x6,e6⟩,f6⟩:=hA3.has 9 (by decide)
 have hA3:=zh hA3
 have hKA3:=zh (hK00.out.trans hKA3)
 have y10:=zh y10
 have y40:=zh y40
 clear y2 y3 hA00 hb00 hK00
 refine hK.out _ _ (fun _=>S2) ?_
 clear hK K S0
 try simp only[Act.put,sAp,sA0,sAs]
 refine hfRdy 6 (by kernel_rfl) rfl fun K hK=>?_
 go_simp
 refine hK.out _ _ (fun _=>S2) ?_
 clear hK K
 try simp only[Act.put,sAp,sA0,sAs]
 refine hfRdy 7 (by kernel_rfl) rfl fun K hK=>?_
 go_simp
 refine hK.out _ _ (fun _=>S2) ?_
 clear hK K
 try simp only[Act.put,sAp,sA0,sAs]
 refine hfRdy 8 (by kernel_rfl) rfl fun K hK=>?_
 go_simp
 refine hK.out _ _ (fun _=>S2) ?_
 clear hK K
 try simp only[Act.put,sAp,sA0,sAs]
 refine hfRdy 9 (by kernel_rfl) rfl fun K hK=>?_
 obtain⟨s1,s2⟩:=S2
 go_simp
 refine hK.out _ _ (fun h=>absurd rfl h) ?_
 clear hK K
 try simp only[Act.put,sAp,sA0,sAs]
 refine wpAnyF_done (by kernel_rfl) ?_ _
 obtain⟨hA5,hKA5⟩:=hA3.out.set_ (o':={ o with entries:=l,calls:=ca }) hB.1 9 (.int .i64 ca) (fun _ _ _ _=>rfl) rfl rfl rfl rfl
 have hA1:=zh hA5
 have hbx1:=zh (hbx3.out.keepB hKA5.1 (by decide))
 have hK1:=zh (hKA3.out.trans hKA5)
 clear hA5 hKA5 hA3 hKA3 hbx3 RN s1 s2 e6 f6
 generalize w2.setCell ⟨tk,9,none⟩ (.int .i64 ca)=w5 at *
 go_upto_region 3 with fail
 refine wp_region_F (fun w'=>w'.cell? ⟨tb,0,none⟩=some (.pointer (some ⟨tk,0,none⟩))∧w'.cell? ⟨tk,0,none⟩=some (.pointer (some ⟨p,0,none⟩))) 9 (by kernel_rfl) ?_
 have hA01:=zh (hA1.out.below (w':=w5.drew) (Below.refl _ _).drew)
 have hb01:=zh hbx1.out.drew
 have hK01:Hid (TkK B w w5.drew):=zh (hK1.out.trans (TkK.drew_ B w5))
 have S0:w5.drew.cell? ⟨tb,0,none⟩=some (.pointer (some ⟨tk,0,none⟩))∧w5.drew.cell? ⟨tk,0,none⟩=some (.pointer (some ⟨p,0,none⟩)):=⟨hb01.out.cell 0,hA01.out.c0⟩
 have RN:=zh (rd_num p s st3 w5.drew hA01.out.rdis hs)
 clear hA1 hbx1 hK1
 generalize w5.drew=wq1 at *
 refine hfTake 0 (v:=?_) ?_ (by assumption) ?_
 rotate_left
 ·(intro _ h;obtain⟨_,_⟩:=h;go_simp<;>with_reducible rfl)
 try simp only[Act.put,sAp,sA0,sAs]
 refine hfTake 1 (v:=?_) ?_ (by assumption) ?_
 rotate_left
 ·(intro _ h;obtain⟨_,_⟩:=h;go_simp<;>with_reducible rfl)
 try simp only[Act.put,sAp,sA0,sAs]
 refine hfTake 2 (v:=?_) ?_ (by assumption) ?_
 rotate_left
 ·(intro _ h;obtain⟨_,_⟩:=h;go_simp<;>with_reducible rfl)
 try simp only[Act.put,sAp,sA0,sAs]
 refine hfTake 3 (v:=?_) ?_ (by assumption) ?_
 rotate_left
 ·(intro _ h;obtain⟨_,_⟩:=h;go_simp<;>with_reducible rfl)
 try simp only[Act.put,sAp,sA0,sAs]
 refine hfTake 4 (v:=?_) ?_ (by assumption) ?_
 rotate_left
 ·(intro _ h;obtain⟨_,_⟩:=h;go_simp<;>with_reducible rfl)
 try simp only[Act.put,sAp,sA0,sAs]
 refine hfRdy 5 (by kernel_rfl) rfl fun K hK=>?_
 go_simp
 refine RN.out.mono ?_
 rintro e w6 ⟨pl,st4,rfl,y11,y2,y3,y41⟩
 obtain⟨hA3,hKA3⟩:=hA01.out.rd y2 y3 hB.2
 have hbx3:=zh (hb01.out.keepB hKA3.1 (by decide))
 have S2:w6.cell? ⟨tb,0,none⟩=some (.pointer (some ⟨tk,0,none⟩))∧w6.cell? ⟨tk,0,none⟩=some (.pointer (some ⟨p,0,none⟩)):=⟨hbx3.out.cell 0,hA3.c0⟩
 obtain⟨⟨x6,e6⟩,f6⟩:=hA3.has 10 (by decide)
 have hA3:=zh hA3
 have hKA3:=zh (hK01.out.trans hKA3)
 have y11:=zh y11
 have y41:=zh y41
 clear y2 y3 hA01 hb01 hK01
 refine hK.out _ _ (fun _=>S2) ?_
 clear hK K S0
 try simp only[Act.put,sAp,sA0,sAs]
 refine hfRdy 6 (by kernel_rfl) rfl fun K hK=>?_
 go_simp
 refine hK.out _ _ (fun _=>S2) ?_
 clear hK K
 try simp only[Act.put,sAp,sA0,sAs]
 refine hfRdy 7 (by kernel_rfl) rfl fun K hK=>?_
 go_simp
 refine hK.out _ _ (fun _=>S2) ?_
 clear hK K
 try simp only[Act.put,sAp,sA0,sAs]
 refine hfRdy 8 (by kernel_rfl) rfl fun K hK=>?_
 go_simp
 refine hK.out _ _ (fun _=>S2) ?_
 clear hK K
 try simp only[Act.put,sAp,sA0,sAs]
 refine hfRdy 9 (by kernel_rfl) rfl fun K hK=>?_
 obtain⟨s1,s2⟩:=S2
 go_simp
 refine hK.out _ _ (fun h=>absurd rfl h) ?_
 clear hK K
 try simp only[Act.put,sAp,sA0,sAs]
 refine wpAnyF_done (by kernel_rfl) ?_ _
 obtain⟨hA5,hKA5⟩:=hA3.out.set_ (o':={ o with entries:=l,calls:=ca,places:=pl }) hB.1 10 (.int .i64 pl) (fun _ _ _ _=>rfl) rfl rfl rfl rfl
 have hA1:=zh hA5
 have hbx1:=zh (hbx3.out.keepB hKA5.1 (by decide))
 have hK1:=zh (hKA3.out.trans hKA5)
 clear hA5 hKA5 hA3 hKA3 hbx3 RN s1 s2 e6 f6
 generalize w6.setCell ⟨tk,10,none⟩ (.int .i64 pl)=w9 at *
 go_wp2_with fail
 go_end0
 exact⟨rfl,n,l,ca,pl,st1,st',st3,st4,hfin.out.1,hfin.out.2.1,y10.out,y11.out,hfin.out.2.2.1,y40.out,y41.out,hA1.out,hK1.out⟩
end Go.Proofs.YtceflhffilldeaaGreat
