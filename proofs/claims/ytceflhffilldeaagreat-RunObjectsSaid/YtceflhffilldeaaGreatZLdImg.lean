/-
  Joined: ZLdImg.
-/
import Derived.Test.YtceflhffilldeaaGreatZLdPut
set_option linter.unusedVariables false
set_option linter.unusedSimpArgs false
set_option maxRecDepth 100000
set_option maxHeartbeats 16000000
namespace Go.Proofs.YtceflhffilldeaaGreat
open Go.RowKit ObjL Ldr Go.Maps Go.WideMaps
theorem ld_blk_of_own {w:World} {base g n:Nat} {e:TypeId} {xs:List Value} (h:w.ownsRow base e 1 (.slice (some ⟨g,0,none⟩) n n) n xs):Blk w g e xs.toArray:=by
 rcases h.2 with ⟨h1,_⟩ | ⟨g',cap,cur,hv,hb,hh,hn,hc,hs,ht⟩
 ·cases h1
 ·injection hv with h1 h2 h3
  injection h1 with h1
  injection h1 with h1
  subst h1 h3
  rw[Nat.mul_one] at hs ht
  rw[List.take_of_length_le (by simp;omega)] at ht
  unfold Blk
  rw[hh,← ht]
theorem ld_made {w:World} {base g n:Nat} {x:Int} (h:w.ownsRow base 37 1 (.slice (some ⟨g,0,none⟩) n n) n (madeCells (#[.int .u32 x]) (n*1)).toList):LWd w g (List.replicate n x):=by
 have h1:=ld_blk_of_own h
 rw[toList_madeCells_one,Nat.mul_one] at h1
 unfold LWd
 rw[List.map_replicate]
 exact h1
abbrev imT:TypeId:=33
theorem image_room {m:Im} {W S:Int} (h:¬ m.end_≤W-S-16):m.image W S=.error 253:=by unfold Im.image;rw[if_neg h]
theorem image_puts {m:Im} {W S c:Int} (h:m.end_≤W-S-16) (h2:steps m.put (m.words0 W) m.n=.error c):m.image W S=.error c:=by unfold Im.image;rw[if_pos h,h2]
theorem image_done {m:Im} {W S:Int} {ws:List Int} (h:m.end_≤W-S-16) (h2:steps m.put (m.words0 W) m.n=.ok ws):m.image W S=.ok (((ws.set 4 (4*m.end_)).set 5 (4*(W-S))).set 6 (4*(W-S)+256)):=by unfold Im.image;rw[if_pos h,h2]
def ImgEnd (w:World) (m:Im) (r:Except Int (List Int)) (e:Ending) (w':World):Prop:=
 match r with
 | .error c=>e=faultE c∧Below w.heap.size w w'
 | .ok ws=>(∃ gw gm cm,e=.returned (.agg #[.slice (some ⟨gw,0,none⟩) ws.length ws.length,.int .i64 8,.slice (some ⟨gm,0,none⟩) m.n cm])∧LWd w' gw ws∧MRow w' gm m∧w.heap.size≤gw∧w.heap.size≤gm)∧Below w.heap.size w w'
theorem ImgEnd.no {w w':World} {m:Im} {r:Except Int (List Int)} {c:Int} (h:r=.error c) (hb:Below w.heap.size w w'):ImgEnd w m r (faultE c) w':=by rw[h];exact⟨rfl,hb⟩
def entsTo (m:Im) (k:Nat):List Int:=(List.range k).map fun i=>(m.pl i).code+(m.ob i).entries.getD 0 0
theorem entsTo_succ (m:Im) (k:Nat):entsTo m (k+1)=entsTo m k++[(m.pl k).code+(m.ob k).entries.getD 0 0]:=by unfold entsTo;rw[List.range_succ,List.map_append];rfl
theorem image_ok (B lp mb sp n:Nat) (D:DataW Unit) (vO:Value) (xs:List OM) (s:LS) (w:World) (h:LdAt 0 0 B lp mb sp w n D vO xs s) (hm:s.im.Ok) (W S:Int) (hW:256≤W) (hW2:W≤65536) (hS:64≤S) (hSW:S<W) :
  Calls Tryz.prog 29 #[.pointer (some ⟨lp,0,none⟩),.agg #[.int .i64 W,.int .i64 S]] w (ImgEnd w s.im (s.im.image W S)):=by
 obtain⟨N,rfl⟩:∃ N:Nat,W=(N:Int):=⟨W.toNat,by omega⟩
 have hl1:1≤xs.length:=by rw[← h.im_n];exact hm.one
 have hxl:xs.length≤16:=by rw[← h.im_n];exact hm.few
 obtain⟨go,kk,rfl,hgo⟩:=h.place (by omega)
 have hlpl:=h.blk.lt
 have hn:=zh h.im_n
 have hh:=zh h
 have hmh:=zh hm
 have hze:=Im.at_bd hm s.im.n (Nat.le_refl _)
 have hzb:13≤s.im.end_∧s.im.end_≤400000:=by have:=hm.few;unfold Im.end_;omega
 clear hze
 have hIr:Hid (¬ s.im.end_≤(N:Int)-S-16→s.im.image N S=.error 253):=zh image_room
 have hIp:Hid (∀ c,s.im.end_≤(N:Int)-S-16→steps s.im.put (s.im.words0 N) s.im.n=.error c→s.im.image N S=.error c):=zh fun c h1 h2=>image_puts h1 h2
 have hId:Hid (∀ ws,s.im.end_≤(N:Int)-S-16→steps s.im.put (s.im.words0 N) s.im.n=.ok ws→s.im.image N S=.ok (((ws.set 4 (4*s.im.end_)).set 5 (4*((N:Int)-S))).set 6 (4*((N:Int)-S)+256))):=zh fun ws h1 h2=>image_done h1 h2
 have hBk:Hid (s.im.end_≤(N:Int)-S-16→Boot.ok N s.im.entries=true):=zh fun he=>Im.boot_ok hm hW hW2 (by omega) he
 have hW0:Hid ((s.im.words0 N).length=N):=zh (by have:=Im.words0_len hm hW;rw[Int.toNat_natCast] at this;exact this)
 have hWd:Hid (s.im.words0 N=Boot.words N s.im.entries++List.replicate (N-(s.im.n+13)) 0):=zh (by unfold Im.words0;rw[Int.toNat_natCast])
 have hEn:Hid (entsTo s.im s.im.n=s.im.entries):=zh rfl
 have hEl:Hid (s.im.entries.length=s.im.n):=zh Im.entries_len
 generalize hR:s.im.image N S=R at *
 generalize hze:s.im.end_=ze at *
 have hzE:=zh hze
 obtain⟨i0,hi0,hz0,hz1,hz2⟩:=info_parts tk_int_info
 have PO:Hid (∀ w1,Below w.heap.size w w1→Calls Tryz.prog 47 #[.pointer (some ⟨lp,0,none⟩)] w1 fun e w'=>∃ v,e=.returned (.tuple #[v,.int .i64 ze])∧w'.ownsRow w1.heap.size plT 6 v xs.length (modCells s.im xs.length)∧Below w1.heap.size w1 w'):=zh fun w1 hb=>by rw[← hzE.out];exact places_ok B lp mb sp n D _ xs s w1 (h.below hb) hm
 clear h hm hR hze
 have hBr:=zh ((Below.refl w.heap.size w).alloc (Nat.le_refl _) (.cells #[.int .i64 N,.int .i64 S] 24))
 go_enter Tryz.func29,Tryz.ntmps29
 go_upto_region 2 with fail
 have hB3:=zh ((((Below.refl w.heap.size w).alloc (Nat.le_refl _) (.cells #[.int .i64 N,.int .i64 S] 24)).alloc (by simp) (.cells #[.slice none 0 0,.int .i64 0,.slice none 0 0] imT)).alloc (by simp;omega) (.cells #[.slice none 0 0,.int .i64 8,.slice none 0 0] imT))
 have e1:(w.alloc (.cells #[.int .i64 N,.int .i64 S] 24)).heap.size=w.heap.size+1:=by simp
 have e2:((w.alloc (.cells #[.int .i64 N,.int .i64 S] 24)).alloc (.cells #[.slice none 0 0,.int .i64 0,.slice none 0 0] imT)).heap.size=w.heap.size+1+1:=by simp
 have bR3:=((Blk.new w 24 #[.int .i64 N,.int .i64 S]).alloc (.cells #[.slice none 0 0,.int .i64 0,.slice none 0 0] imT)).alloc (.cells #[.slice none 0 0,.int .i64 8,.slice none 0 0] imT)
 have b43:=(Blk.new (w.alloc (.cells #[.int .i64 N,.int .i64 S] 24)) imT #[.slice none 0 0,.int .i64 0,.slice none 0 0]).alloc (.cells #[.slice none 0 0,.int .i64 8,.slice none 0 0] imT)
 have b53:=Blk.new ((w.alloc (.cells #[.int .i64 N,.int .i64 S] 24)).alloc (.cells #[.slice none 0 0,.int .i64 0,.slice none 0 0] imT)) imT #[.slice none 0 0,.int .i64 8,.slice none 0 0]
 rw[e1] at b43
 rw[e2] at b53
 have bR3:=zh bR3
 have b43h:=zh b43
 have b53h:=zh b53
 clear e1 e2 b43 b53 hBr
 obtain⟨g4,e4⟩:∃ g4,g4=w.heap.size+1:=⟨_,rfl⟩
 obtain⟨g5,e5⟩:∃ g5,g5=w.heap.size+1+1:=⟨_,rfl⟩
 have hgg:w.heap.size<g4∧g4<g5:=by omega
 rw[← e5] at b53h ⊢
 rw[← e4] at b43h ⊢
 clear e4 e5
 generalize World.alloc _ _=w3 at *
 go_upto_region 3 with (go_at_call 47;refine(PO.out _ hB3.out).mono ?_;rintro e w4 ⟨v,rfl,own4,hb4⟩;obtain⟨A4,cm,rfl⟩:=own_slice own4;have own4:=zh own4;have hb4:=zh hb4)
 obtain⟨gm,eA⟩:∃ gm,A4=some ⟨gm,0,none⟩:=by
  rcases own4.out.2 with ⟨q1,q2⟩ | ⟨g,cap,cur,q1,-⟩
  ·omega
  ·injection q1 with q1;exact⟨g,q1⟩
 subst eA
 have hgm:=own4.out.lt gm rfl
 have hM4:Hid (MRow w4 gm s.im):=zh ⟨hgm.2,fun j u hu=>by
  have:=own4.out.cells (g:=gm) rfl j u (by rw[hn.out] at hu;exact hu)
  rw[tk_add] at this
  exact this⟩
 have hg3:g5<w3.heap.size:=b53h.out.lt
 have hgm5:g5<gm:=by omega
 have hB4:=zh (hB3.out.trans (hb4.out.mono hB3.out.size))
 have bR4:=zh (bR3.out.below hb4.out bR3.out.lt)
 have b44:=zh (b43h.out.below hb4.out b43h.out.lt)
 have b54:=zh (b53h.out.below hb4.out b53h.out.lt)
 clear own4 hb4 bR3 b43h b53h hB3 hgm hg3 PO
 have cR0:w4.cell? ⟨w.heap.size,0,none⟩=some (.int .i64 N):=by have:=bR4.out.cell 0;simpa using this
 have cR1:w4.cell? ⟨w.heap.size,1,none⟩=some (.int .i64 S):=by have:=bR4.out.cell 1;simpa using this
 by_cases hz:ze≤(N:Int)-S-16
 ·have hzd:decide (ze≤(N:Int)-S-16)=true:=decide_eq_true hz
  have hMv:Hid (Blk (w4.setCell ⟨g5,2,none⟩ (.slice (some ⟨gm,0,none⟩) xs.length cm)) g5 imT #[.slice none 0 0,.int .i64 8,.slice (some ⟨gm,0,none⟩) xs.length cm]):=zh (b54.out.set_ 2 _)
  have hRv:=zh (bR4.out.far (p:=⟨g5,2,none⟩) (by show w.heap.size≠g5;omega) (.slice (some ⟨gm,0,none⟩) xs.length cm))
  have h4v:=zh (b44.out.far (p:=⟨g5,2,none⟩) (by show g4≠g5;omega) (.slice (some ⟨gm,0,none⟩) xs.length cm))
  have hBv:=zh (hB4.out.setCell (p:=⟨g5,2,none⟩) (by show w.heap.size≤g5;omega) (.slice (some ⟨gm,0,none⟩) xs.length cm))
  have hM5:Hid (MRow (w4.setCell ⟨g5,2,none⟩ (.slice (some ⟨gm,0,none⟩) xs.length cm)) gm s.im):=zh ⟨by have:=hM4.out.lt;simpa using this,fun j u hu=>by
   rw[World.cell?_of_block (w:=w4) (Below.heap_setCell w4 ⟨g5,2,none⟩ _ gm (by show gm≠g5;omega))]
   exact hM4.out.cells j u hu⟩
  have c52:w4.cell? ⟨g5,2,none⟩=some (.slice none 0 0):=by have:=b54.out.cell 2;simpa using this
  have f52:=b54.out.frozen 2
  have hlo:=(hh.out.below hBv.out).blk.cell 3
  simp only[gAr,gC0,gCs] at hlo
  clear hM4 bR4 b44 b54 hB4
  go_upto_region 5 with (go_at_call 48;refine(want_ok _ _).mono ?_;rintro e w5 ⟨rfl,rfl⟩)
  clear cR0 cR1 c52 f52 hzd
  generalize World.setCell _ _ _=w5 at *
  go_wp2_with fail
  go_loopw [8,36] (fun ev iv wr=>∃ k:Nat,iv=.int .i64 k∧k≤xs.length∧Hid (wr.ownsRow w5.heap.size 3 1 ev k ((entsTo s.im k).map (Value.int .i64))∧Below w5.heap.size w5 wr)) (fun _ iv _=>xs.length-(intOf iv).toNat)
  case atStart=>exact⟨0,rfl,by omega,zh ⟨World.ownsRow_nil _ _ _ _,Below.refl _ _⟩⟩
  case round=>
   obtain⟨k,rfl,hk,hI⟩:=hrel
   obtain⟨i2,i3⟩:=hI.out
   clear hI
   by_cases hlt:(k:Int)<(xs.length:Int)
   ·have hkl:k<xs.length:=by omega
    have hkn:k<s.im.n:=by rw[hn.out];exact hkl
    have hbw:=hBv.out.trans (i3.mono hBv.out.size)
    have hb:=hh.out.below hbw
    have hr:=hb.range hkl
    obtain⟨AU,cU,AD,cD,AC,cC,AE,cE,F⟩:=(hh.out.oms xs[k] (List.getElem_mem hkl)).form
    have hen:=F.entries
    rw[F.eq] at hr
    have hob:=hb.im_ob hkl
    rw[← hob] at hr hen
    have hMk:=(hM5.out.below i3).range hkn 5 _ rfl
    have hes:=zh (entsTo_succ s.im k)
    have hfk:=hmh.out.fit hkn
    have hff:=hfk.entries
    have hfe:=hfk.entry
    have hpk:=Im.pl_ok (m:=s.im) k
    have hat:=Im.at_bd hmh.out k (by omega)
    obtain⟨f1,f2,f3,f4,f5,f6,f7,f8,-,-⟩:=hfk
    obtain⟨p0,p1,p2,p3,-⟩:=hpk
    have hrh:=zh hr
    clear hr hb F hob hfe
    generalize s.im.ob k=x at *
    generalize s.im.pl k=pl at *
    generalize s.im.at_ k=ak at *
    have hx0:0<x.entries.length:=by omega
    obtain⟨-,A1,c1,q1,hc⟩:=hen
    injection q1 with q1 _ q2
    subst q1 q2
    obtain⟨ad,rfl,hadw,hyw⟩:=hc 0 hx0
    have hy:=(hbw.cell (p:=ad.add 0) (by rw[block_add];exact hadw)).trans hyw
    have had:ad.block<wr.heap.size:=Nat.lt_of_lt_of_le hadw hbw.size
    have had5:ad.block<w5.heap.size:=Nat.lt_of_lt_of_le hadw hBv.out.size
    clear hyw hadw hbw
    have hyb:=f8 (x.entries.getD 0 0) (by rw[List.getD_eq_getElem?_getD,List.getElem?_eq_getElem hx0];exact List.getElem_mem hx0)
    generalize x.entries.getD 0 0=y at *
    have hpc:0≤pl.code∧pl.code≤400000:=by omega
    clear p0 p1 p2 p3 hat
    have had0:ad.add 0=ad:=by unfold Addr.add;split<;>simp_all
    rw[had0] at hy
    have hy0:=zh hy
    have hadh:=zh had
    have s1:Hid ((Tryz.prog.info? obT).map (·.size)=some (obCells x (.slice AU x.uses.length cU) (.slice AD x.descs.length cD) (.slice AC x.code.length cC) (.slice (some ad) x.entries.length cE)).size):=zh (by kernel_rfl)
    have s2:Hid ((Tryz.prog.info? obT).map (·.size)=some (obCells x (.slice AU x.uses.length cU) (.slice AD x.descs.length cD) (.slice AC x.code.length cC) (.slice (some ad) x.entries.length cE)).toList.length):=zh (by kernel_rfl)
    have s3:Hid ((#[.string ⟨#[]⟩,.int .u32 0,.slice none 0 0,.slice none 0 0,.int .i64 0,.string ⟨#[]⟩,.slice none 0 0,.slice none 0 0,.int .i64 0,.int .i64 0]:Array Value).size=(obCells x (.slice AU x.uses.length cU) (.slice AD x.descs.length cD) (.slice AC x.code.length cC) (.slice (some ad) x.entries.length cE)).size):=zh rfl
    have s4:Hid ((obCells x (.slice AU x.uses.length cU) (.slice AD x.descs.length cD) (.slice AC x.code.length cC) (.slice (some ad) x.entries.length cE)).all (·.oneCell')=true):=zh (by simp only[obCells,List.all_toArray,List.all_cons,List.all_nil];simp[Value.oneCell'])
    have L2:=zh (Blk.new wr obT (obCells x (.slice AU x.uses.length cU) (.slice AD x.descs.length cD) (.slice AC x.code.length cC) (.slice (some ad) x.entries.length cE)))
    have i2b:=zh (i2.alloc (.cells (obCells x (.slice AU x.uses.length cU) (.slice AD x.descs.length cD) (.slice AC x.code.length cC) (.slice (some ad) x.entries.length cE)) obT))
    have i3b:=zh (i3.alloc i3.size (.cells (obCells x (.slice AU x.uses.length cU) (.slice AD x.descs.length cD) (.slice AC x.code.length cC) (.slice (some ad) x.entries.length cE)) obT))
    have hMb:=zh ((hM5.out.below i3).below ((Below.refl wr.heap.size wr).alloc (Nat.le_refl _) (.cells (obCells x (.slice AU x.uses.length cU) (.slice AD x.descs.length cD) (.slice AC x.code.length cC) (.slice (some ad) x.entries.length cE)) obT)))
    have hyb2:(wr.alloc (.cells (obCells x (.slice AU x.uses.length cU) (.slice AD x.descs.length cD) (.slice AC x.code.length cC) (.slice (some ad) x.entries.length cE)) obT)).cell? ad=some (.int .i64 y):=(World.cell?_alloc_lt wr _ _ had).trans hy
    have hMk2:(wr.alloc (.cells (obCells x (.slice AU x.uses.length cU) (.slice AD x.descs.length cD) (.slice AC x.code.length cC) (.slice (some ad) x.entries.length cE)) obT)).cell? ⟨gm,k*6+5,none⟩=some (.int .i64 pl.code):=(World.cell?_alloc_lt wr (.cells (obCells x (.slice AU x.uses.length cU) (.slice AD x.descs.length cD) (.slice AC x.code.length cC) (.slice (some ad) x.entries.length cE)) obT) ⟨gm,k*6+5,none⟩ (hM5.out.below i3).lt).trans hMk
    have hgl:=(Blk.new wr obT (obCells x (.slice AU x.uses.length cU) (.slice AD x.descs.length cD) (.slice AC x.code.length cC) (.slice (some ad) x.entries.length cE))).lt
    have n7:=(Blk.new wr obT (obCells x (.slice AU x.uses.length cU) (.slice AD x.descs.length cD) (.slice AC x.code.length cC) (.slice (some ad) x.entries.length cE))).cell 7
    simp only[obCells,gAr,gC0,gCs] at n7
    have hadl:ad.block<(wr.alloc (.cells (obCells x (.slice AU x.uses.length cU) (.slice AD x.descs.length cD) (.slice AC x.code.length cC) (.slice (some ad) x.entries.length cE)) obT)).heap.size:=by simp;omega
    have hgmb:=hMb.out.lt
    have hq8:=zh i2.lt
    have hgm5':=hM5.out.lt
    have h5r:=i3.size
    clear i2 i3 hy hMk had
    go_upto_region 9 with (first | (refine wpList_load_mid rfl 48 (.tmp 39) rfl go (k*10) rfl (obCells x (.slice AU x.uses.length cU) (.slice AD x.descs.length cD) (.slice AC x.code.length cC) (.slice (some ad) x.entries.length cE)).toList _ hrh.out Tryz.underlying48 rfl s2.out ?_) | (refine wpList_store_last rfl 48 (.tmp 10) (.tmp 40) rfl wr (obCells x (.slice AU x.uses.length cU) (.slice AD x.descs.length cD) (.slice AC x.code.length cC) (.slice (some ad) x.entries.length cE)) _ _ rfl rfl rfl s1.out s3.out s4.out ?_))
    have hsn1:=n7
    unfold obCells at *
    generalize wr.alloc _=Wq at *
    generalize wr.heap.size=gz at *
    clear hrh s1 s2 s3 s4 L2 hsn1
    have hw1:IntKind.i64.wrap (pl.code+y)=pl.code+y:=by rw[IntKind.wrap_i64];omega
    have hw2:wrap64 (pl.code+y)=pl.code+y:=by unfold wrap64;omega
    have hkx:(k:Int)<(xs.length:Int):=hlt
    have he0:(0:Int)<(x.entries.length:Int):=by omega
    refine wp_region_F (fun w'=>w'.cell? ⟨gm,k*6+5,none⟩=some (.int .i64 pl.code)∧w'.cell? ⟨gz,7,none⟩=some (.slice (some ad) x.entries.length cE)∧w'.cell? ad=some (.int .i64 y)) 13 (by kernel_rfl) ?_
    have HSq:Hid (∀ W',Below Wq.heap.size Wq W'→W'.cell? ⟨gm,k*6+5,none⟩=some (.int .i64 pl.code)∧W'.cell? ⟨gz,7,none⟩=some (.slice (some ad) x.entries.length cE)∧W'.cell? ad=some (.int .i64 y)):=zh fun W' hb=>⟨(hb.cell (p:=⟨gm,k*6+5,none⟩) hgmb).trans hMk2,(hb.cell (p:=⟨gz,7,none⟩) hgl).trans n7,(hb.cell (p:=ad) hadl).trans hyb2⟩
    have S0:=HSq.out Wq.drew (Below.refl Wq.heap.size Wq).drew
    refine hfTake 0 (v:=?_) ?_ S0 ?_
    rotate_left
    ·(intro _ h;obtain⟨_,_,_⟩:=h;go_simp<;>with_reducible rfl)
    try simp only[Act.put,sAp,sA0,sAs]
    refine hfTake 1 (v:=?_) ?_ S0 ?_
    rotate_left
    ·(intro _ h;obtain⟨_,_,_⟩:=h;go_simp<;>with_reducible rfl)
    try simp only[Act.put,sAp,sA0,sAs]
    refine hfTake 2 (v:=?_) ?_ S0 ?_
    rotate_left
    ·(intro _ h;obtain⟨_,_,_⟩:=h;go_simp<;>with_reducible rfl)
    try simp only[Act.put,sAp,sA0,sAs]
    refine hfTake 3 (v:=?_) ?_ S0 ?_
    rotate_left
    ·(intro _ h;obtain⟨_,_,_⟩:=h;go_simp<;>with_reducible rfl)
    try simp only[Act.put,sAp,sA0,sAs]
    refine hfTake 4 (v:=?_) ?_ S0 ?_
    rotate_left
    ·(intro _ h;obtain⟨_,_,_⟩:=h;go_simp<;>with_reducible rfl)
    try simp only[Act.put,sAp,sA0,sAs]
    refine hfTake 5 (v:=?_) ?_ S0 ?_
    rotate_left
    ·(intro _ h;obtain⟨_,_,_⟩:=h;go_simp<;>with_reducible rfl)
    try simp only[Act.put,sAp,sA0,sAs]
    refine hfTake 6 (v:=?_) ?_ S0 ?_
    rotate_left
    ·(intro _ h;obtain⟨_,_,_⟩:=h;go_simp<;>with_reducible rfl)
    try simp only[Act.put,sAp,sA0,sAs]
    refine hfTake 7 (v:=?_) ?_ S0 ?_
    rotate_left
    ·(intro _ h;obtain⟨_,_,_⟩:=h;go_simp<;>with_reducible rfl)
    try simp only[Act.put,sAp,sA0,sAs]
    refine hfTake 8 (v:=?_) ?_ S0 ?_
    rotate_left
    ·(intro _ h;obtain⟨_,_,_⟩:=h;go_simp<;>with_reducible rfl)
    try simp only[Act.put,sAp,sA0,sAs]
    refine hfTake 9 (v:=?_) ?_ S0 ?_
    rotate_left
    ·(intro _ h;obtain⟨_,_,_⟩:=h;go_simp<;>with_reducible rfl)
    try simp only[Act.put,sAp,sA0,sAs]
    refine hfTake 10 (v:=?_) ?_ S0 ?_
    rotate_left
    ·(intro _ h;obtain⟨_,_,_⟩:=h;go_simp<;>with_reducible rfl)
    try simp only[Act.put,sAp,sA0,sAs]
    refine hfRdy 11 (by kernel_rfl) rfl fun K hK=>?_
    go_simp
    have B1:=((Below.refl Wq.heap.size Wq).alloc (Nat.le_refl _) (.cells #[.int .i64 (pl.code+y)] 3)).drew
    have own1:=zh (show ((Wq.alloc (.cells #[.int .i64 (pl.code+y)] 3)).drew).ownsRow w5.heap.size 3 1 u8 k ((entsTo s.im k).map (Value.int .i64)) from i2b.out.alloc _)
    have S1:=HSq.out _ B1
    have B1w:=zh ((i3b.out.alloc i3b.out.size (.cells #[.int .i64 (pl.code+y)] 3)).drew)
    have hnw:=zh (show ∀ (j:Nat) (u:Value),[Value.int .i64 (pl.code+y)][j]?=some u→(Wq.alloc (.cells #[.int .i64 (pl.code+y)] 3)).drew.cell? ((⟨Wq.heap.size,0,none⟩:Addr).add j)=some u from fc_news1 Wq 3 (.int .i64 (pl.code+y)))
    refine hK.out _ _ (fun _=>S1) ?_
    clear hK K S0 i2b i3b
    try simp only[Act.put,sAp,sA0,sAs]
    have hqs:gm<(Wq.alloc (.cells #[.int .i64 (pl.code+y)] 3)).drew.heap.size∧gz<(Wq.alloc (.cells #[.int .i64 (pl.code+y)] 3)).drew.heap.size∧ad.block<(Wq.alloc (.cells #[.int .i64 (pl.code+y)] 3)).drew.heap.size:=by
     have:(Wq.alloc (.cells #[.int .i64 (pl.code+y)] 3)).drew.heap.size=Wq.heap.size+1:=by show (Wq.alloc _).heap.size=_;simp
     omega
    generalize (Wq.alloc (.cells #[.int .i64 (pl.code+y)] 3)).drew=Wr at *
    generalize Wq.heap.size=gn at *
    refine hfRdy 12 (by kernel_rfl) rfl fun K hK=>?_
    refine step_own_at Wr rfl (.tmp 41) (.tmp 52) 46 3 rfl 1 8 (.int .i64 0) Tryz.underlying46 tk_int_info rfl (by omega) w5.heap.size B1w.out.size u8 k _ own1.out ⟨gn,0,none⟩ 1 1 [.int .i64 (pl.code+y)] rfl rfl rfl hnw.out (by simp[Value.oneCell']) (by simp only[maxLen];omega) (by omega) ?_
    intro v2 w2 ho2 hg2 hat2
    have S2:w2.cell? ⟨gm,k*6+5,none⟩=some (.int .i64 pl.code)∧w2.cell? ⟨gz,7,none⟩=some (.slice (some ad) x.entries.length cE)∧w2.cell? ad=some (.int .i64 y):=
     ⟨(World.cell?_of_block (w:=Wr) (a:=⟨gm,k*6+5,none⟩) (hg2.block gm hqs.1 (fun e=>by have:=(hq8.out gm e.symm).1;omega))).trans S1.1,(World.cell?_of_block (w:=Wr) (a:=⟨gz,7,none⟩) (hg2.block gz hqs.2.1 (fun e=>by have:=(hq8.out gz e.symm).2;omega))).trans S1.2.1,(World.cell?_of_block (w:=Wr) (a:=ad) (hg2.block ad.block hqs.2.2 (fun e=>by have:=(hq8.out ad.block e.symm).1;omega))).trans S1.2.2⟩
    have B2w:=zh (Below.grown B1w.out hg2 B1w.out.size (fun q hq=>(hq8.out q hq).1))
    have ho3:w2.ownsRow w5.heap.size 3 1 v2 (k+1) ((entsTo s.im (k+1)).map (Value.int .i64)):=by
     rw[hes.out,List.map_append]
     exact ho2
    have ho3:=zh ho3
    refine hK.out _ _ (fun _=>S2) ?_
    clear hK K S1 own1 hnw B1w hg2 ho2 hat2
    try simp only[Act.put,sAp,sA0,sAs]
    refine hfRdy 13 (by kernel_rfl) rfl fun K hK=>?_
    go_simp
    refine hK.out _ _ (fun h=>absurd rfl h) ?_
    clear hK K S2
    try simp only[Act.put,sAp,sA0,sAs]
    refine wpAnyF_done (by kernel_rfl) ?_ _
    clear hy0 hyb2 hMk2 n7 HSq
    go_wp2_with fail
    exact⟨⟨k+1,by go_num,by omega,zh ⟨ho3.out,B2w.out⟩⟩,by simp[intOf];omega⟩
   ·obtain rfl:k=xs.length:=by omega
    obtain⟨vE,cE2,rfl⟩:=own_slice i2
    have hrowE:Row .i64 wr (.slice vE xs.length cE2) s.im.entries:=by
     have e:=hEn.out
     rw[hn.out] at e
     rw[e] at i2
     have i2':wr.ownsRow w5.heap.size 3 1 (.slice vE xs.length cE2) s.im.entries.length (s.im.entries.map (Value.int .i64)):=by rw[hEl.out,hn.out];exact i2
     exact row_of_own i2'
    have BO:=zh (image_boot_ok N s.im.entries _ wr hrowE (hBk.out hz))
    have hB6:=zh (hBv.out.trans (i3.mono hBv.out.size))
    have hM6:=zh (hM5.out.below i3)
    have b56:=zh (hMv.out.below i3 hMv.out.lt)
    have b46:=zh (h4v.out.below i3 h4v.out.lt)
    have bR6:=zh (hRv.out.below i3 hRv.out.lt)
    have cR0:wr.cell? ⟨w.heap.size,0,none⟩=some (.int .i64 N):=by have:=bR6.out.cell 0;simpa using this
    clear i2 i3 hrowE hM5 hMv h4v hRv hBv
    generalize wr=wb at *
    go_upto_region 12 with (go_at_call 49;refine BO.out.mono ?_;rintro e w6 ⟨u,rfl,own6,hb6⟩;have own6:=zh own6;have hb6:=zh hb6)
    have hB7:=zh (hB6.out.trans (hb6.out.mono hB6.out.size))
    have hM7:=zh (hM6.out.below hb6.out)
    have b57:=zh (b56.out.below hb6.out b56.out.lt)
    have b47:=zh (b46.out.below hb6.out b46.out.lt)
    have bR7:=zh (bR6.out.below hb6.out bR6.out.lt)
    have cR0:w6.cell? ⟨w.heap.size,0,none⟩=some (.int .i64 N):=by have:=bR7.out.cell 0;simpa using this
    have c50:w6.cell? ⟨g5,0,none⟩=some (.slice none 0 0):=by have:=b57.out.cell 0;simpa using this
    have h5b:g5<wb.heap.size:=b56.out.lt
    clear BO hB6 hM6 b56 b46 bR6 hb6
    obtain⟨i1,hi1,hz3,hz4,hz5⟩:=info_parts tk_u32_info
    have h5l:=b57.out.lt
    go_upto_region 14 with (first | (go_at_call 48;refine(want_ok _ _).mono ?_;rintro e w7 ⟨rfl,rfl⟩) | (at_make;refine wpList_make_full _ rfl (.tmp 66) (.tmp 66) 30 rfl w.heap.size 37 i1 _ 1 Tryz.underlying30 hi1 hz3 hz4 .i64 .i64 _ _ N rfl rfl rfl rfl (by rw[hz5];omega) (by simp only[maxLen];omega) (by have:=hB7.out.size;omega) ?_;intro w8 hown8 hg8;have b58:=zh (b57.out.grown hg8 (by intro e;cases e));have c58:w8.cell? ⟨g5,0,none⟩=some (.slice none 0 0):=(by have:=b58.out.cell 0;simpa using this);have f58:=b58.out.frozen 0;have hg8:=zh hg8;have hW8:=zh (ld_made hown8);clear hown8 c50))
    obtain⟨uA,uc,rfl⟩:=own_slice own6.out
    obtain⟨gq,eA⟩:∃ gq,uA=some ⟨gq,0,none⟩:=by
     rcases own6.out.2 with ⟨q1,q2⟩ | ⟨g,cap,cur,q1,-⟩
     ·omega
     ·injection q1 with q1;exact⟨g,q1⟩
    subst eA
    have hgq:=own6.out.lt gq rfl
    have hw68:=hg8.out.size
    have hsrc:Hid (∀ j v,((Boot.words N s.im.entries).map (Value.int .u32))[j]?=some v→(w8.setCell ⟨g5,0,none⟩ (.slice (some ⟨w6.heap.size,0,none⟩) N N)).cell? ((⟨gq,0,none⟩:Addr).add j)=some v):=zh fun j v hj=>by
     have h1:=own6.out.cells (g:=gq) rfl j v hj
     rw[tk_add] at h1 ⊢
     rw[World.cell?_of_block (w:=w8) (Below.heap_setCell w8 ⟨g5,0,none⟩ _ gq (by show gq≠g5;omega)),World.cell?_of_block (w:=w6) (hg8.out.block gq hgq.2 (by intro e;cases e))]
     exact h1
    have hel:s.im.entries.length=xs.length:=by rw[hEl.out,hn.out]
    have hbl:(Boot.words N s.im.entries).length=xs.length+13:=by rw[Boot.words_len,hel]
    have bX9:=zh (b58.out.set_ 0 (.slice (some ⟨w6.heap.size,0,none⟩) N N))
    have hW9:Hid (LWd (w8.setCell ⟨g5,0,none⟩ (.slice (some ⟨w6.heap.size,0,none⟩) N N)) w6.heap.size (List.replicate N 0)):=zh (Blk.far hW8.out (p:=⟨g5,0,none⟩) (by show w6.heap.size≠g5;omega) _)
    have hB9:=zh ((Below.grown hB7.out hg8.out hB7.out.size (by intro k hk;cases hk)).setCell (p:=⟨g5,0,none⟩) (by show w.heap.size≤g5;omega) (.slice (some ⟨w6.heap.size,0,none⟩) N N))
    have hK9:Hid (Kept (fun p=>p<w6.heap.size∧p≠g5) w6 (w8.setCell ⟨g5,0,none⟩ (.slice (some ⟨w6.heap.size,0,none⟩) N N))):=zh (((Kept.refl (fun p=>p<w6.heap.size∧p≠g5) w6).grown hg8.out (fun p hp=>hp.1) (by intro k hk;cases hk)).setCell (p:=⟨g5,0,none⟩) (fun hS=>hS.2 rfl) (.slice (some ⟨w6.heap.size,0,none⟩) N N))
    have hfit:Hid (0+((Boot.words N s.im.entries).map (Value.int .u32)).length≤((List.replicate N (0:Int)).map (Value.int .u32)).toArray.size):=zh (by rw[List.length_map,hbl,List.size_toArray,List.length_map,List.length_replicate];omega)
    have hmin:Hid (((Boot.words N s.im.entries).map (Value.int .u32)).length=Nat.min (s.im.entries.length+13) N):=zh (by rw[List.length_map,hbl,hel];exact(Nat.min_eq_left (by omega)).symm)
    have hone:Hid (∀ v∈(Boot.words N s.im.entries).map (Value.int .u32),v.oneCell'=true):=zh (by intro v hv;obtain⟨y,-,rfl⟩:=List.mem_map.1 hv;rfl)
    have hgwl:w6.heap.size<(w8.setCell ⟨g5,0,none⟩ (.slice (some ⟨w6.heap.size,0,none⟩) N N)).heap.size:=hW9.out.lt
    have cX9:(w8.setCell ⟨g5,0,none⟩ (.slice (some ⟨w6.heap.size,0,none⟩) N N)).cell? ⟨g5,0,none⟩=some (.slice (some ⟨w6.heap.size,0,none⟩) N N):=by have:=bX9.out.cell 0;simpa using this
    have h6z:g5<w6.heap.size∧gm<w6.heap.size∧g4<w6.heap.size∧w.heap.size<w6.heap.size:=⟨b57.out.lt,hM7.out.lt,b47.out.lt,bR7.out.lt⟩
    have bR9:=zh (bR7.out.kept hK9.out ⟨h6z.2.2.2,by omega⟩)
    have b49:=zh (b47.out.kept hK9.out ⟨h6z.2.2.1,by omega⟩)
    have hM9:Hid (MRow (w8.setCell ⟨g5,0,none⟩ (.slice (some ⟨w6.heap.size,0,none⟩) N N)) gm s.im):=zh ⟨Nat.lt_of_lt_of_le h6z.2.1 hK9.out.size,fun j u hu=>(hK9.out.cell (p:=⟨gm,0+j,none⟩) ⟨h6z.2.1,by show gm≠g5;omega⟩).trans (hM7.out.cells j u hu)⟩
    clear hg8 hW8 b58 c58 f58 hB7 hM7 b57 b47 bR7 own6 hK9 cR0 hgq h5b
    generalize w8.setCell _ _=w9 at *
    generalize w6.heap.size=gw at *
    have hWA:Hid (LWd (w9.setRow gw (((((List.replicate N (0:Int)).map (Value.int .u32)).toArray.toList.take 0++(((Boot.words N s.im.entries).map (Value.int .u32))++(((List.replicate N (0:Int)).map (Value.int .u32)).toArray.toList.drop (0+((Boot.words N s.im.entries).map (Value.int .u32)).length))))).toArray)) gw (s.im.words0 N)):=zh (by
     have h1:=setRow_heap w9 gw _ (((((List.replicate N (0:Int)).map (Value.int .u32)).toArray.toList.take 0++(((Boot.words N s.im.entries).map (Value.int .u32))++(((List.replicate N (0:Int)).map (Value.int .u32)).toArray.toList.drop (0+((Boot.words N s.im.entries).map (Value.int .u32)).length))))).toArray) _ _ hW9.out
     unfold LWd Blk
     rw[h1,hWd.out,List.map_append,hn.out]
     simp only[List.take_zero,List.nil_append,Nat.zero_add,List.length_map,hbl,List.map_replicate,List.drop_replicate])
    have bXA:=zh (show Blk (w9.setRow gw (((((List.replicate N (0:Int)).map (Value.int .u32)).toArray.toList.take 0++(((Boot.words N s.im.entries).map (Value.int .u32))++(((List.replicate N (0:Int)).map (Value.int .u32)).toArray.toList.drop (0+((Boot.words N s.im.entries).map (Value.int .u32)).length))))).toArray)) g5 imT _ from (setRow_other _ _ _ _ (by omega)).trans bX9.out)
    have bRA:=zh (show Blk (w9.setRow gw (((((List.replicate N (0:Int)).map (Value.int .u32)).toArray.toList.take 0++(((Boot.words N s.im.entries).map (Value.int .u32))++(((List.replicate N (0:Int)).map (Value.int .u32)).toArray.toList.drop (0+((Boot.words N s.im.entries).map (Value.int .u32)).length))))).toArray)) w.heap.size 24 _ from (setRow_other _ _ _ _ (by omega)).trans bR9.out)
    have b4A:=zh (show Blk (w9.setRow gw (((((List.replicate N (0:Int)).map (Value.int .u32)).toArray.toList.take 0++(((Boot.words N s.im.entries).map (Value.int .u32))++(((List.replicate N (0:Int)).map (Value.int .u32)).toArray.toList.drop (0+((Boot.words N s.im.entries).map (Value.int .u32)).length))))).toArray)) g4 imT _ from (setRow_other _ _ _ _ (by omega)).trans b49.out)
    have hBA:=zh (below_setRow (g:=gw) hB9.out (show w.heap.size≤gw by omega) (((((List.replicate N (0:Int)).map (Value.int .u32)).toArray.toList.take 0++(((Boot.words N s.im.entries).map (Value.int .u32))++(((List.replicate N (0:Int)).map (Value.int .u32)).toArray.toList.drop (0+((Boot.words N s.im.entries).map (Value.int .u32)).length))))).toArray))
    have hMA:Hid (MRow (w9.setRow gw (((((List.replicate N (0:Int)).map (Value.int .u32)).toArray.toList.take 0++(((Boot.words N s.im.entries).map (Value.int .u32))++(((List.replicate N (0:Int)).map (Value.int .u32)).toArray.toList.drop (0+((Boot.words N s.im.entries).map (Value.int .u32)).length))))).toArray)) gm s.im):=zh ⟨by have:=hM9.out.lt;simpa using this,fun j u hu=>(cell_setRow_other _ _ _ ⟨gm,0+j,none⟩ (by show gm≠gw;omega)).trans (hM9.out.cells j u hu)⟩
    have cLA:=(hh.out.below hBA.out).blk.cell 3
    simp only[gAr,gC0,gCs] at cLA
    have hels:=zh hel
    clear hel hbl bX9 bR9 b49 hB9 hM9
    go_wp2_with ((refine wpList_copy_own rfl (.tmp 70) (.tmp 71) 30 30 rfl 37 Tryz.underlying30 (by kernel_rfl) gw 0 N N ⟨gq,0,none⟩ (s.im.entries.length+13) uc rfl rfl ((List.replicate N (0:Int)).map (Value.int .u32)).toArray 37 hW9.out ((Boot.words N s.im.entries).map (Value.int .u32)) hmin.out hsrc.out hfit.out hone.out ?_);generalize World.setRow _ _ _=wA at *)
    clear cX9 cLA
    have hw0:=hW0.out
    go_loopw [78] (fun kv wr=>∃ k:Nat,kv=.int .i64 k∧k≤xs.length∧Hid (∃ ws,steps s.im.put (s.im.words0 N) k=.ok ws∧ws.length=N∧LWd wr gw ws∧Kept (fun p=>p<wA.heap.size∧p≠gw) wA wr)) (fun kv _=>xs.length-(intOf kv).toNat)
    case atStart=>exact⟨0,rfl,by omega,zh ⟨_,rfl,hw0,hWA.out,Kept.refl _ _⟩⟩
    case round=>
     clear hWA
     obtain⟨k,rfl,hk,hI⟩:=hrel
     obtain⟨ws,hst,hwl,hww,hkk⟩:=hI.out
     clear hI
     have hbr:Below w.heap.size w wr:=hBA.out.trans (hkk.to_below fun p hp=>⟨by have:=hBA.out.size;omega,by omega⟩)
     have bXr:=zh (bXA.out.kept hkk ⟨bXA.out.lt,by omega⟩)
     have bRr:=zh (bRA.out.kept hkk ⟨bRA.out.lt,by omega⟩)
     have b4r:=zh (b4A.out.kept hkk ⟨b4A.out.lt,by omega⟩)
     have hMr:MRow wr gm s.im:=⟨Nat.lt_of_lt_of_le hMA.out.lt hkk.size,fun j u hu=>(hkk.cell (p:=⟨gm,0+j,none⟩) ⟨hMA.out.lt,by show gm≠gw;omega⟩).trans (hMA.out.cells j u hu)⟩
     have cX:=bXr.out.cell 0
     simp only[Array.getElem?_setIfInBounds,List.getElem?_toArray,List.setIfInBounds_toArray,List.set_cons_zero,List.getElem?_cons_zero] at cX
     by_cases hlt2:(k:Int)<(xs.length:Int)
     ·have hkl:k<xs.length:=by omega
      have hkn:k<s.im.n:=by rw[hn.out];exact hkl
      have hen:s.im.end_≤ws.length:=by rw[hwl];have:=hzE.out;omega
      have PT:=put_ok B lp mb sp n D _ xs s w wr hh.out hmh.out hbr gm cm gw hMr ws hww (by omega) (by omega) (by omega) hen k hkl
      rw[hwl] at PT
      have hssu:=steps_succ hst
      cases hp:s.im.put k ws with
      | error c=>
       rw[hp] at PT hssu
       have hIc:=zh (hIp.out c hz (steps_fail hssu s.im.n (by omega)))
       have PT:=zh PT
       have hbrh:=zh hbr
       clear hst hww hkk hMr hbr hssu hwl
       go_wp2_with fail
       refine PT.out.mono ?_
       rintro e w2 ⟨rfl,hk2⟩
       exact⟨rfl,ImgEnd.no hIc.out (hbrh.out.trans (hk2.to_below fun p hp=>⟨by have:=hbrh.out.size;omega,by omega⟩))⟩
      | ok ws2=>
       rw[hp] at PT hssu
       have PT:=zh PT
       have hssh:=zh hssu
       have hwl2:=zh ((put_len hmh.out hkn hen hp).trans hwl)
       have hkkh:=zh hkk
       clear hst hww hkk hMr hbr hssu hwl hp hen
       go_wp2_with (go_at_call 50;refine PT.out.mono ?_;rintro e w2 ⟨rfl,hw2,hk2⟩;have hw2:=zh hw2;have hk3:=zh (Kept.trans hkkh.out (hk2.mono fun p hp=>⟨Nat.lt_of_lt_of_le hp.1 hkkh.out.size,hp.2⟩));clear hk2)
       exact⟨⟨k+1,by go_num,by omega,zh ⟨ws2,hssh.out,hwl2.out,hw2.out,hk3.out⟩⟩,by simp[intOf];omega⟩
     ·obtain rfl:k=xs.length:=by omega
      have hIk:=zh (hId.out ws hz (by rw[hn.out];exact hst))
      have hww:=zh hww
      have hkk:=zh hkk
      have hMA2:=hMA
      clear hst hbr hMr cX bXr bRr b4r hIr hIp hId hWd hEn hEl hels hmin hsrc hfit hone hW9 hBk hlt
      have hN6:(6:Int)<(N:Int):=by omega
      have hN5:(5:Int)<(N:Int):=by omega
      have hN4:(4:Int)<(N:Int):=by omega
      have v1:wrap64 (4*ze)=4*ze:=by unfold wrap64;omega
      have v2:IntKind.u32.wrap (4*ze)=4*ze:=by rw[IntKind.wrap_u32];omega
      have v3:wrap64 ((N:Int)-S)=(N:Int)-S:=by unfold wrap64;omega
      have v4:wrap64 (4*((N:Int)-S))=4*((N:Int)-S):=by unfold wrap64;omega
      have v5:IntKind.u32.wrap (4*((N:Int)-S))=4*((N:Int)-S):=by rw[IntKind.wrap_u32];omega
      have v6:IntKind.u32.wrap (4*((N:Int)-S)+256)=4*((N:Int)-S)+256:=by rw[IntKind.wrap_u32];omega
      have cX:wr.cell? ⟨g5,0,none⟩=some (.slice (some ⟨gw,0,none⟩) N N):=by have:=(bXA.out.kept hkk.out ⟨bXA.out.lt,by omega⟩).cell 0;simpa using this
      have cR0:wr.cell? ⟨w.heap.size,0,none⟩=some (.int .i64 N):=by have:=(bRA.out.kept hkk.out ⟨bRA.out.lt,by omega⟩).cell 0;simpa using this
      have cR1:wr.cell? ⟨w.heap.size,1,none⟩=some (.int .i64 S):=by have:=(bRA.out.kept hkk.out ⟨bRA.out.lt,by omega⟩).cell 1;simpa using this
      have cw:=hww.out.cell 4 (by omega)
      have fw:=hww.out.frozen 4
      have hww1:=zh (hww.out.set_ 4 (4*ze))
      have hkk1:=zh (hkk.out.setCell (p:=⟨gw,4,none⟩) (fun hS=>hS.2 rfl) (.int .u32 (4*ze)))
      have hwl1:(ws.set 4 (4*ze)).length=N:=by rw[List.length_set];exact hwl
      go_upto_region 21 with fail
      clear cX cR0 cR1 cw fw hkk hww hwl
      have hkk:=hkk1
      have hww:=hww1
      clear hkk1 hww1
      generalize wr.setCell _ _=wr at *
      generalize ws.set 4 (4*ze)=ws1 at *
      have cX:wr.cell? ⟨g5,0,none⟩=some (.slice (some ⟨gw,0,none⟩) N N):=by have:=(bXA.out.kept hkk.out ⟨bXA.out.lt,by omega⟩).cell 0;simpa using this
      have cR0:wr.cell? ⟨w.heap.size,0,none⟩=some (.int .i64 N):=by have:=(bRA.out.kept hkk.out ⟨bRA.out.lt,by omega⟩).cell 0;simpa using this
      have cR1:wr.cell? ⟨w.heap.size,1,none⟩=some (.int .i64 S):=by have:=(bRA.out.kept hkk.out ⟨bRA.out.lt,by omega⟩).cell 1;simpa using this
      have cw:=hww.out.cell 5 (by omega)
      have fw:=hww.out.frozen 5
      have hww1:=zh (hww.out.set_ 5 (4*((N:Int)-S)))
      have hkk1:=zh (hkk.out.setCell (p:=⟨gw,5,none⟩) (fun hS=>hS.2 rfl) (.int .u32 (4*((N:Int)-S))))
      have hwl2:(ws1.set 5 (4*((N:Int)-S))).length=N:=by rw[List.length_set];exact hwl1
      have hg5:(ws1.set 5 (4*((N:Int)-S))).getD 5 0=4*((N:Int)-S):=Fx.getD_set_same _ _ _ (by omega)
      go_upto_region 22 with fail
      clear cX cR0 cR1 cw fw hkk hww hwl1
      have hkk:=hkk1
      have hww:=hww1
      clear hkk1 hww1
      generalize wr.setCell _ _=wr at *
      generalize ws1.set 5 (4*((N:Int)-S))=ws2 at *
      have cX:wr.cell? ⟨g5,0,none⟩=some (.slice (some ⟨gw,0,none⟩) N N):=by have:=(bXA.out.kept hkk.out ⟨bXA.out.lt,by omega⟩).cell 0;simpa using this
      have cw5:=hww.out.cell 5 (by omega)
      rw[hg5] at cw5
      have cw:=hww.out.cell 6 (by omega)
      have fw:=hww.out.frozen 6
      have hww1:=zh (hww.out.set_ 6 (4*((N:Int)-S)+256)).drew
      have hkk1:=zh (hkk.out.setCell (p:=⟨gw,6,none⟩) (fun hS=>hS.2 rfl) (.int .u32 (4*((N:Int)-S)+256))).drew
      have hwl3:(ws2.set 6 (4*((N:Int)-S)+256)).length=N:=by rw[List.length_set];exact hwl2
      refine region_drew 8 (by kernel_rfl) (by kernel_rfl) ?_
      simp only[List.take_succ_cons,List.take_zero,List.drop_succ_cons,List.drop_zero]
      repeat still_step
      refine wpStill_nil ?_
      clear hg5
      go_upto_region 23 with fail
      clear cX cw5 cw fw hkk hww hwl2
      generalize World.drew _=wz at *
      have bXz:=bXA.out.kept hkk1.out ⟨bXA.out.lt,by omega⟩
      have b4z:=b4A.out.kept hkk1.out ⟨b4A.out.lt,by omega⟩
      have x0:wz.cell? ⟨g5,0,none⟩=some (.slice (some ⟨gw,0,none⟩) N N):=by have:=bXz.cell 0;simpa using this
      have x1:wz.cell? ⟨g5,1,none⟩=some (.int .i64 8):=by have:=bXz.cell 1;simpa using this
      have x2:wz.cell? ⟨g5,2,none⟩=some (.slice (some ⟨gm,0,none⟩) xs.length cm):=by have:=bXz.cell 2;simpa using this
      have y0:wz.cell? ⟨g4,0,none⟩=some (.slice none 0 0):=by have:=b4z.cell 0;simpa using this
      have y1:wz.cell? ⟨g4,1,none⟩=some (.int .i64 0):=by have:=b4z.cell 1;simpa using this
      have y2:wz.cell? ⟨g4,2,none⟩=some (.slice none 0 0):=by have:=b4z.cell 2;simpa using this
      have z0:=b4z.frozen 0
      have z1:=b4z.frozen 1
      have z2:=b4z.frozen 2
      have b4f:=((b4z.set_ 0 (.slice (some ⟨gw,0,none⟩) N N)).set_ 1 (.int .i64 8)).set_ 2 (.slice (some ⟨gm,0,none⟩) xs.length cm)
      have r0:(((wz.setCell ⟨g4,0,none⟩ (.slice (some ⟨gw,0,none⟩) N N)).setCell ⟨g4,1,none⟩ (.int .i64 8)).setCell ⟨g4,2,none⟩ (.slice (some ⟨gm,0,none⟩) xs.length cm)).cell? ⟨g4,0,none⟩=some (.slice (some ⟨gw,0,none⟩) N N):=by have:=b4f.cell 0;simpa using this
      have r1:(((wz.setCell ⟨g4,0,none⟩ (.slice (some ⟨gw,0,none⟩) N N)).setCell ⟨g4,1,none⟩ (.int .i64 8)).setCell ⟨g4,2,none⟩ (.slice (some ⟨gm,0,none⟩) xs.length cm)).cell? ⟨g4,1,none⟩=some (.int .i64 8):=by have:=b4f.cell 1;simpa using this
      have r2:(((wz.setCell ⟨g4,0,none⟩ (.slice (some ⟨gw,0,none⟩) N N)).setCell ⟨g4,1,none⟩ (.int .i64 8)).setCell ⟨g4,2,none⟩ (.slice (some ⟨gm,0,none⟩) xs.length cm)).cell? ⟨g4,2,none⟩=some (.slice (some ⟨gm,0,none⟩) xs.length cm):=by have:=b4f.cell 2;simpa using this
      have hKf:Hid (Kept (fun p=>p≠g4) wz (((wz.setCell ⟨g4,0,none⟩ (.slice (some ⟨gw,0,none⟩) N N)).setCell ⟨g4,1,none⟩ (.int .i64 8)).setCell ⟨g4,2,none⟩ (.slice (some ⟨gm,0,none⟩) xs.length cm))):=zh ((((Kept.refl (fun p=>p≠g4) wz).setCell (p:=⟨g4,0,none⟩) (fun hS=>hS rfl) _).setCell (p:=⟨g4,1,none⟩) (fun hS=>hS rfl) _).setCell (p:=⟨g4,2,none⟩) (fun hS=>hS rfl) _)
      have hWf:=zh (hww1.out.kept hKf.out (by omega))
      have hMz:MRow wz gm s.im:=⟨Nat.lt_of_lt_of_le hMA2.out.lt hkk1.out.size,fun j u hu=>(hkk1.out.cell (p:=⟨gm,0+j,none⟩) ⟨hMA2.out.lt,by show gm≠gw;omega⟩).trans (hMA2.out.cells j u hu)⟩
      have hMf:Hid (MRow (((wz.setCell ⟨g4,0,none⟩ (.slice (some ⟨gw,0,none⟩) N N)).setCell ⟨g4,1,none⟩ (.int .i64 8)).setCell ⟨g4,2,none⟩ (.slice (some ⟨gm,0,none⟩) xs.length cm)) gm s.im):=zh ⟨Nat.lt_of_lt_of_le hMz.lt hKf.out.size,fun j u hu=>(hKf.out.cell (p:=⟨gm,0+j,none⟩) (by show gm≠g4;omega)).trans (hMz.cells j u hu)⟩
      have hBf:Hid (Below w.heap.size w (((wz.setCell ⟨g4,0,none⟩ (.slice (some ⟨gw,0,none⟩) N N)).setCell ⟨g4,1,none⟩ (.int .i64 8)).setCell ⟨g4,2,none⟩ (.slice (some ⟨gm,0,none⟩) xs.length cm))):=zh (hBA.out.trans (Below.trans (hkk1.out.to_below fun p hp=>⟨by have:=hBA.out.size;omega,by omega⟩) (hKf.out.to_below fun p hp=>by omega)))
      have hne45:g4≠g5:=by omega
      clear bXz b4z b4f hMz hKf
      go_wp2_with fail
      have hfin:ImgEnd w s.im R (.returned (.agg #[.slice (some ⟨gw,0,none⟩) N N,.int .i64 8,.slice (some ⟨gm,0,none⟩) xs.length cm])) (((wz.setCell ⟨g4,0,none⟩ (.slice (some ⟨gw,0,none⟩) N N)).setCell ⟨g4,1,none⟩ (.int .i64 8)).setCell ⟨g4,2,none⟩ (.slice (some ⟨gm,0,none⟩) xs.length cm)):=by
       rw[hIk.out]
       exact⟨⟨gw,gm,cm,by rw[hwl3,hn.out],hWf.out,hMf.out,by omega,by omega⟩,hBf.out⟩
      have hfin:=zh hfin
      refine bodyPost_ret (v:=.agg #[.slice (some ⟨gw,0,none⟩) N N,.int .i64 8,.slice (some ⟨gm,0,none⟩) xs.length cm]) (by simp only[results,Tryz.results29];go_simp) rfl hfin.out
 ·have hzd:decide (ze≤(N:Int)-S-16)=false:=decide_eq_false hz
  have hIe:=zh (hIr.out (by omega))
  go_wp2_with fail
  refine(want_no 253 _).mono ?_
  rintro e w5 ⟨rfl,rfl⟩
  exact⟨rfl,ImgEnd.no hIe.out hB4.out⟩
end Go.Proofs.YtceflhffilldeaaGreat
