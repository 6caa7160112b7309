/-
  Joined: ZLies.
-/
import Derived.Test.YtceflhffilldeaaGreatZWake
set_option linter.unusedVariables false
set_option linter.unusedSimpArgs false
set_option maxRecDepth 100000
set_option maxHeartbeats 16000000
namespace Go.Proofs.YtceflhffilldeaaGreat
open Go.RowKit Go.Maps Go.WideMaps Plays ObjL Ldr
structure LiesOk (m:Im) (ws:List Int) (W:Int) (nm:List UInt8):Prop where
 ok:m.Ok
 len:(ws.length:Int)=W
 four:ws.getD 4 0=4*m.end_
 last:(m.ob (m.n-1)).name=nm
 big:256≤ws.length∧ws.length≤65536
 five:∃ v,ws.getD 5 0=v∧4*m.end_<v∧ws.getD 6 0=v+256
theorem lies_ok {G:Files} {nm:List UInt8} {W S:Int} {m:Im} {ws:List Int} (h:ldLoad G nm W S=.ok (m,ws)) (hok:m.Ok):LiesOk m ws W nm:=by
 obtain⟨h1,h2,h3⟩:=ldLoad_inv h
 unfold badRoom at h1
 simp only[Bool.or_eq_false_iff,decide_eq_false_iff_not] at h1
 obtain⟨i1,i2,i3,i4,i5⟩:=Ldr.image_ok hok (by omega) (by omega) h2
 exact⟨hok,by omega,i3,h3,by omega,⟨_,i4,by omega,i5⟩⟩
theorem lies_at {m:Im} (h:m.Ok) {k:Nat} (hk:k<m.n):(m.pl k).descs=m.at_ k∧m.at_ k≤(m.pl k).data∧(m.pl k).data≤(m.pl k).strings∧(m.pl k).strings≤(m.pl k).code∧(m.pl k).code<m.at_ (k+1)∧0≤m.at_ k∧(m.pl k).code≤400000∧(m.pl k).code<m.end_:=by
 obtain⟨p0,p1,p2,p3,p4⟩:=Im.pl_ok (m:=m) k
 have h1:=Im.at_bd h k (by omega)
 have h3:=Im.entry_in h hk
 have h4:=code_in h hk
 have h5:=h.few
 obtain⟨f1,f2,f3,f4,f5,f6,f7,-,-,-⟩:=h.fit hk
 omega
theorem law26_lies (l:List (BA×BA)) (vs:Value) (nm:List UInt8) (W S:Int) (w:World) (hv:FRow w vs l) (hsz:∀ x∈l,x.1.size≤9223372036854775807∧x.2.size≤9223372036854775807) :
  Calls Tryz.prog 3 #[vs,.string (txt nm),.agg #[.int .i64 W,.int .i64 S]] w fun e w'=>e=.returned (.bool true)∧Below w.heap.size w w':=by
 have WK:∀ W',Hid (Calls Tryz.prog 9 #[] W' fun e w'=>e=.returned (.bool true)∧Below W'.heap.size W' w'):=fun W'=>zh (law26_wakes W')
 have hR1:=zh (Blk.new w 24 #[.int .i64 W,.int .i64 S])
 have hB1:=zh ((Below.refl w.heap.size w).alloc (Nat.le_refl _) (.cells #[.int .i64 W,.int .i64 S] 24))
 have hv1:=zh (hv.below ((Below.refl w.heap.size w).alloc (Nat.le_refl _) (.cells #[.int .i64 W,.int .i64 S] 24)))
 have ST:=zh (law26_stores l vs _ hv1.out hsz)
 have hns:=txt_size nm
 clear hv hsz hv1
 go_enter Tryz.func3,Tryz.ntmps3
 go_wp2_with fail
 refine ST.out.mono ?_
 rintro e w2 ⟨p,q,kk,ok,rfl,hS2,hb2,-,-⟩
 have hB2:=zh (hB1.out.trans (hb2.mono hB1.out.size))
 have hR2:=zh (hR1.out.below hb2 hR1.out.lt)
 have hG:=zh (show ∃ N T,GetOk (storeG N T) w2.heap.size p w2 by
  obtain⟨m,n,v,u,h1,-⟩:=hS2
  exact⟨_,_,getOk_of h1 (st_rel _ _).1 (st_rel _ _).2⟩)
 clear ST hS2 hb2 hB1 hR1
 cases ok with
 | false=>
  go_wp2_with fail
  refine(WK w2).out.mono ?_
  rintro e w3 ⟨rfl,hb3⟩
  have hB3:=zh (hB2.out.trans (hb3.mono hB2.out.size))
  go_wp2_with fail
  go_ret
  exact⟨rfl,hB3.out⟩
 | true=>
  by_cases hlong:(1000:Int)<nm.length
  ·go_wp2_with fail
   refine(WK w2).out.mono ?_
   rintro e w3 ⟨rfl,hb3⟩
   have hB3:=zh (hB2.out.trans (hb3.mono hB2.out.size))
   go_wp2_with fail
   go_ret
   exact⟨rfl,hB3.out⟩
  ·obtain⟨N,T,hGo⟩:=hG.out
   have LO:=zh (load_ok _ p w2 hGo nm (by omega) W S)
   have cR0:w2.cell? ⟨w.heap.size,0,none⟩=some (.int .i64 W):=by have:=hR2.out.cell 0;simpa using this
   have cR1:w2.cell? ⟨w.heap.size,1,none⟩=some (.int .i64 S):=by have:=hR2.out.cell 1;simpa using this
   cases hld:ldLoad (storeG N T) nm W S with
   | error c=>
    have hcn:=ldLoad_ne hld
    rw[hld] at LO
    go_wp2_with fail
    refine LO.out.mono ?_
    rintro e w3 ⟨rfl,hb3⟩
    have hB4:=zh ((hB2.out.trans (hb3.mono hB2.out.size)).alloc (Nat.le_trans hB2.out.size hb3.size) (.cells #[.slice none 0 0,.int .i64 0,.slice none 0 0] imT))
    have hcb:(c==0)=false:=by rw[beq_eq_false_iff_ne];exact hcn
    have hcb2:(c != 0)=true:=by rw[bne_iff_ne];exact hcn
    clear hb3 LO hR2 cR0 cR1 hB2 hG hGo hld hcn
    go_wp2_with (go_at_call 9;refine(WK _).out.mono ?_;rintro e w5 ⟨rfl,hb5⟩;have hB5:=zh (hB4.out.trans (hb5.mono hB4.out.size));clear hb5)
    go_ret
    exact⟨rfl,hB5.out⟩
   | ok r=>
    obtain⟨m,ws⟩:=r
    rw[hld] at LO
    go_wp2_with fail
    refine LO.out.mono ?_
    rintro e w3 ⟨⟨gw,gm,cm,rfl,hw3,hM3,hok⟩,hb3⟩
    have hLi:=lies_ok hld hok
    obtain⟨-,hlen,h4w,hlast,⟨hbig1,hbig2⟩,v5,h5w,h5b,h6w⟩:=hLi
    subst hlen
    obtain⟨n1,hn1⟩:∃ n1,m.n=n1+1:=⟨m.n-1,by have:=hok.one;omega⟩
    have hnf:=hok.few
    rw[hn1,Nat.add_sub_cancel] at hlast
    have hB4:=zh ((hB2.out.trans (hb3.mono hB2.out.size)).alloc (Nat.le_trans hB2.out.size hb3.size) (.cells #[.slice (some ⟨gw,0,none⟩) ws.length ws.length,.int .i64 8,.slice (some ⟨gm,0,none⟩) (n1+1) cm] imT))
    have hb34:=hb3.alloc hb3.size (.cells #[.slice (some ⟨gw,0,none⟩) ws.length ws.length,.int .i64 8,.slice (some ⟨gm,0,none⟩) (n1+1) cm] imT)
    have hI4:=zh (Blk.new w3 imT #[.slice (some ⟨gw,0,none⟩) ws.length ws.length,.int .i64 8,.slice (some ⟨gm,0,none⟩) (n1+1) cm])
    have hM4:=zh (hM3.below ((Below.refl w3.heap.size w3).alloc (Nat.le_refl _) (.cells #[.slice (some ⟨gw,0,none⟩) ws.length ws.length,.int .i64 8,.slice (some ⟨gm,0,none⟩) (n1+1) cm] imT)))
    have hw4:=zh (hw3.alloc (.cells #[.slice (some ⟨gw,0,none⟩) ws.length ws.length,.int .i64 8,.slice (some ⟨gm,0,none⟩) (n1+1) cm] imT))
    have hR4:=zh (hR2.out.below hb34 hR2.out.lt)
    have hokh:=zh hok
    have hn1h:=zh hn1
    clear hb3 hw3 hM3 hb34 hR2 cR0 cR1 hB2 hG hGo hld hok
    unfold imCells
    go_upto_region 7 with fail
    clear LO
    generalize w3.alloc _=w4 at *
    generalize w3.heap.size=g6 at *
    have cR0:w4.cell? ⟨w.heap.size,0,none⟩=some (.int .i64 ws.length):=by have:=hR4.out.cell 0;simpa using this
    have c0:w4.cell? ⟨g6,0,none⟩=some (.slice (some ⟨gw,0,none⟩) ws.length ws.length):=by have:=(hI4.out).cell 0;simpa using this
    have c1:w4.cell? ⟨g6,1,none⟩=some (.int .i64 8):=by have:=(hI4.out).cell 1;simpa using this
    have c2:w4.cell? ⟨g6,2,none⟩=some (.slice (some ⟨gm,0,none⟩) (n1+1) cm):=by have:=(hI4.out).cell 2;simpa using this
    have cnm:w4.cell? ⟨gm,n1*6,none⟩=some (.string (txt nm)):=by
     have:=hM4.out.range (i:=n1) (by rw[hn1h.out];omega) 0 (.string (txt (m.ob n1).name)) rfl
     rw[hlast] at this
     exact this
    have hnb:n1+1≤16:=by omega
    have hat0:m.at_ 0=13+((n1+1:Nat):Int):=by rw[Im.at0 hokh.out,hn1h.out]
    have hat0h:=zh hat0
    have hlie:=zh (fun k (hk:k<m.n)=>lies_at hokh.out hk)
    have hendn:=zh (show m.end_=m.at_ (n1+1) by unfold Im.end_;rw[hn1h.out])
    have hzend:m.end_≤400000:=by
     have:=Im.at_bd hokh.out m.n (Nat.le_refl _)
     have h16:=hokh.out.few
     unfold Im.end_
     omega
    clear hat0 hn1 hnf hlast
    have hn0:(((n1:Int)+1)==0)=false:=by rw[beq_eq_false_iff_ne];omega
    go_upto_region 9 with fail
    clear cnm cR0
    go_wp2_with fail
    clear c0 c1 c2
    go_loopw [12,13] (fun av iv wr=>∃ k:Nat,iv=.int .i64 k∧k≤n1∧av=.int .i64 (m.at_ k)∧Hid (Below w4.heap.size w4 wr)) (fun _ iv _=>16-(intOf iv).toNat)
    case atStart=>exact⟨0,rfl,by omega,by rw[hat0h.out];go_num,zh (Below.refl _ _)⟩
    case round=>
     obtain⟨k,rfl,hk,rfl,hb⟩:=hrel
     have hkm:k<m.n:=by rw[hn1h.out];omega
     have hlt:(k:Int)<(n1:Int)+1:=by omega
     obtain⟨q0,q1,q2,q3,q4,q5,q6,q7⟩:=hlie.out k hkm
     have hMr:=(hM4.out.below hb.out).range hkm
     have x0:wr.cell? ⟨gm,k*6,none⟩=some (.string (txt (m.ob k).name)):=hMr 0 _ rfl
     have x1:wr.cell? ⟨gm,k*6+1,none⟩=some (.int .u32 (m.ob k).key):=hMr 1 _ rfl
     have x2:wr.cell? ⟨gm,k*6+2,none⟩=some (.int .i64 (m.pl k).descs):=hMr 2 _ rfl
     have x3:wr.cell? ⟨gm,k*6+3,none⟩=some (.int .i64 (m.pl k).data):=hMr 3 _ rfl
     have x4:wr.cell? ⟨gm,k*6+4,none⟩=some (.int .i64 (m.pl k).strings):=hMr 4 _ rfl
     have x5:wr.cell? ⟨gm,k*6+5,none⟩=some (.int .i64 (m.pl k).code):=hMr 5 _ rfl
     rw[q0] at x2
     have hMh:=zh (hM4.out.below hb.out)
     have c0:wr.cell? ⟨g6,0,none⟩=some (.slice (some ⟨gw,0,none⟩) ws.length ws.length):=by have:=(hI4.out.below hb.out hI4.out.lt).cell 0;simpa using this
     have c1:wr.cell? ⟨g6,1,none⟩=some (.int .i64 8):=by have:=(hI4.out.below hb.out hI4.out.lt).cell 1;simpa using this
     have c2:wr.cell? ⟨g6,2,none⟩=some (.slice (some ⟨gm,0,none⟩) (n1+1) cm):=by have:=(hI4.out.below hb.out hI4.out.lt).cell 2;simpa using this
     by_cases hnx:k+1<m.n
     ·have hnxl:(k:Int)+1<(n1:Int)+1:=by have:=hn1h.out;omega
      have x6:wr.cell? ⟨gm,(k+1)*6+2,none⟩=some (.int .i64 (m.at_ (k+1))):=by
       have:=hMh.out.range hnx 2 _ rfl
       rw[(hlie.out (k+1) hnx).1] at this
       exact this
      have hak:Hid (∃ a1,m.at_ (k+1)=a1):=zh ⟨_,rfl⟩
      have hbz:=zh (hb.out.alloc hb.out.size (.cells #[.string (txt (m.ob k).name),.int .u32 (m.ob k).key,.int .i64 (m.at_ k),.int .i64 (m.pl k).data,.int .i64 (m.pl k).strings,.int .i64 (m.pl k).code] plT))
      clear hMr q0 hak
      have hgml:=hMh.out.lt
      have hg6l:g6<wr.heap.size:=(hI4.out.below hb.out hI4.out.lt).lt
      go_wp2_with fail
      exact⟨⟨k+1,by go_num,by omega,rfl,hbz⟩,by simp[intOf];omega⟩
     ·have hkn1:k=n1:=by have:=hn1h.out;omega
      subst hkn1
      have hgml:=hMh.out.lt
      have hg6l:g6<wr.heap.size:=(hI4.out.below hb.out hI4.out.lt).lt
      have hz5:m.end_≤400000:=hzend
      have hI5:=zh (hI4.out.below (hb.out.alloc hb.out.size (.cells #[.string (txt (m.ob k).name),.int .u32 (m.ob k).key,.int .i64 (m.at_ k),.int .i64 (m.pl k).data,.int .i64 (m.pl k).strings,.int .i64 (m.pl k).code] plT)) hI4.out.lt)
      have hw5:=zh (hw4.out.kept ((Kept.refl (fun p=>p<w4.heap.size) w4).below (hb.out.alloc hb.out.size (.cells #[.string (txt (m.ob k).name),.int .u32 (m.ob k).key,.int .i64 (m.at_ k),.int .i64 (m.pl k).data,.int .i64 (m.pl k).strings,.int .i64 (m.pl k).code] plT)) fun p hp=>hp) hw4.out.lt)
      have hP5:=zh (Blk.new wr plT #[.string (txt (m.ob k).name),.int .u32 (m.ob k).key,.int .i64 (m.at_ k),.int .i64 (m.pl k).data,.int .i64 (m.pl k).strings,.int .i64 (m.pl k).code])
      have hB5:=zh (hB4.out.trans ((hb.out.alloc hb.out.size (.cells #[.string (txt (m.ob k).name),.int .u32 (m.ob k).key,.int .i64 (m.at_ k),.int .i64 (m.pl k).data,.int .i64 (m.pl k).strings,.int .i64 (m.pl k).code] plT)).mono hB4.out.size))
      have hbs:=hb.out.size
      have hB4s:=hB4.out.size
      clear hMr q0 hMh hlie
      go_upto_region 20 with fail
      clear x0 x1 x2 x3 x4 x5 c0 c1 c2
      generalize wr.alloc _=wc at *
      generalize wr.heap.size=g9 at *
      have F0:∀ u:Cls wc,u.w.cell? ⟨g6,0,none⟩=some (.slice (some ⟨gw,0,none⟩) ws.length ws.length):=Cls.cell (by have:=hI5.out.cell 0;simpa using this) hI5.out.lt
      have F2:∀ u:Cls wc,u.w.cell? ⟨g6,2,none⟩=some (.slice (some ⟨gm,0,none⟩) (k+1) cm):=Cls.cell (by have:=hI5.out.cell 2;simpa using this) hI5.out.lt
      have F4:∀ u:Cls wc,u.w.cell? ⟨gw,4,none⟩=some (.int .u32 (4*m.end_)):=Cls.cell (by rw[hw5.out.cell 4 (by omega),h4w]) hw5.out.lt
      have F5:∀ u:Cls wc,u.w.cell? ⟨gw,5,none⟩=some (.int .u32 v5):=Cls.cell (by rw[hw5.out.cell 5 (by omega),h5w]) hw5.out.lt
      have F6:∀ u:Cls wc,u.w.cell? ⟨gw,6,none⟩=some (.int .u32 (v5+256)):=Cls.cell (by rw[hw5.out.cell 6 (by omega),h6w]) hw5.out.lt
      have F9:∀ u:Cls wc,u.w.cell? ⟨g9,5,none⟩=some (.int .i64 (m.pl k).code):=Cls.cell (by have:=hP5.out.cell 5;simpa using this) hP5.out.lt
      have F90:True:=trivial
      generalize (m.pl k).code=co at *
      have v1:IntKind.i64.wrap (4*co)=4*co:=by rw[IntKind.wrap_i64];omega
      have v2:IntKind.i64.wrap (4*m.end_)=4*m.end_:=by rw[IntKind.wrap_i64];omega
      have v3:4*co<4*m.end_:=by omega
      have v4:v5<v5+256:=by omega
      have hN4:(4:Int)<(ws.length:Int):=by omega
      have hN5:(5:Int)<(ws.length:Int):=by omega
      have hN6:(6:Int)<(ws.length:Int):=by omega
      refine wp_region_cls (by kernel_rfl) (by kernel_rfl) ?_
      repeat (go_big_quiet_step ((go_at_call 9;exact cls_call (WK _).out)))
      refine wpQuiet_nil ?_
      intro wq hw0
      have hq:Below wc.heap.size wc wq:=(by obtain⟨u,rfl⟩:=hw0;exact u.h)
      clear hw0
      have hBq:=zh (hB5.out.trans (hq.mono hB5.out.size))
      go_wp2_with fail
      go_ret
      exact⟨rfl,hBq.out⟩
theorem law26_lies_text (l:List (BA×BA)) (vs:Value) (s:BA) (W S:Int) (w:World) (hv:FRow w vs l) (hsz:∀ x∈l,x.1.size≤9223372036854775807∧x.2.size≤9223372036854775807) :
  Calls Tryz.prog 3 #[vs,.string s,.agg #[.int .i64 W,.int .i64 S]] w fun e w'=>e=.returned (.bool true)∧Below w.heap.size w w':=by
 have:=law26_lies l vs s.data.toList W S w hv hsz
 rw[txt_of] at this
 exact this
end Go.Proofs.YtceflhffilldeaaGreat
