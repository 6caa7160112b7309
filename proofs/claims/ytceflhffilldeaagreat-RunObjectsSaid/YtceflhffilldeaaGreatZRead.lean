/-
  Joined: ZRead.
-/
import Derived.Test.YtceflhffilldeaaGreatZObjG
import Derived.Deep.CutBlock
set_option linter.unusedVariables false
set_option linter.unusedSimpArgs false
set_option maxRecDepth 100000
set_option maxHeartbeats 16000000
namespace Go.Proofs.YtceflhffilldeaaGreat
open Go.RowKit ObjL
def RdIs (T:TypeId) (w:World) (p:Nat) (s:List UInt8) (st:Lft):Prop:=
 ∃ (a:Nat) (bad:Bool),Blk w p T #[.string (txt s),.int .i64 (a:Int),.bool bad]∧a≤s.length∧st=(if bad=true then none else some (s.drop a))
def RdK (p:Nat) (w w':World):Prop:=Kept (fun k=>k<w.heap.size∧k≠p) w w'
theorem RdK.refl (p:Nat) (w:World):RdK p w w:=Kept.refl _ _
theorem RdK.trans {p:Nat} {a b c:World} (h:RdK p a b) (k:RdK p b c):RdK p a c:=Kept.trans h (Kept.mono k fun q hq=>⟨Nat.lt_of_lt_of_le hq.1 h.size,hq.2⟩)
theorem RdK.of_below {p:Nat} {w w':World} (h:Below w.heap.size w w'):RdK p w w':=(Kept.refl (fun k=>k<w.heap.size∧k≠p) w).below h fun k hk=>hk.1
theorem RdK.to_below {p B:Nat} {w w':World} (h:RdK p w w') (hB:B≤p) (hp:p<w.heap.size):Below B w w':=Kept.to_below h fun k hk=>⟨by omega,by omega⟩
theorem RdK.set_ {p:Nat} {w w':World} (h:RdK p w w') (i:Nat) (u:Value):RdK p w (w'.setCell ⟨p,i,none⟩ u):=Kept.setCell h (fun hk=>hk.2 rfl) u
theorem RdK.drewN {p:Nat} {w w':World} (h:RdK p w w') (n:Nat):RdK p w (w'.drewN n):=Kept.drewN h n
theorem RdIs.below {T:TypeId} {w w':World} {p:Nat} {s:List UInt8} {st:Lft} (h:RdIs T w p s st) (hb:Below w.heap.size w w'):RdIs T w' p s st:=by
 obtain⟨a,bad,h1,h2,h3⟩:=h
 exact⟨a,bad,h1.below hb h1.lt,h2,h3⟩
theorem RdIs.lt {T:TypeId} {w:World} {p:Nat} {s:List UInt8} {st:Lft} (h:RdIs T w p s st):p<w.heap.size:=by
 obtain⟨a,bad,h1,-⟩:=h
 exact h1.lt
theorem RdIs.kept {T:TypeId} {S:Nat→Prop} {w w':World} {p:Nat} {s:List UInt8} {st:Lft} (h:RdIs T w p s st) (hk:Kept S w w') (hS:S p):RdIs T w' p s st:=by
 obtain⟨a,bad,h1,h2,h3⟩:=h
 exact⟨a,bad,h1.kept hk hS,h2,h3⟩
theorem RdIs.drewN {T:TypeId} {w:World} {p:Nat} {s:List UInt8} {st:Lft} (h:RdIs T w p s st) (n:Nat):RdIs T (w.drewN n) p s st:=h
def RdEnd {α:Type} (T:TypeId) (p:Nat) (s:List UInt8) (rd:List UInt8→Option (α×List UInt8)) (val:α→Value) (ok:α→Prop) (st:Lft) (w:World) (e:Ending) (w':World):Prop:=
 ∃ x st',e=.returned (val x)∧Took rd st x st'∧RdIs T w' p s st'∧RdK p w w'∧ok x
theorem RdEnd.mk {α:Type} {T:TypeId} {p:Nat} {s:List UInt8} {rd:List UInt8→Option (α×List UInt8)} {val:α→Value} {ok:α→Prop} {st:Lft} {w w':World} {v:Value} (x:α) (st':Lft) (h1:val x=v) (h2:Took rd st x st') (h3:RdIs T w' p s st') (h4:RdK p w w') (h5:ok x):RdEnd T p s rd val ok st w (.returned v) w':=⟨x,st',by rw[h1],h2,h3,h4,h5⟩
def tVal (t:List UInt8):Value:=.string (txt t)
def tOk (s t:List UInt8):Prop:=t.length≤s.length
def wOk (x:Int):Prop:=0≤x∧x≤4294967295
def nOk (x:Int):Prop:=-2147483648≤x∧x<2147483648
theorem txt_part (s:List UInt8) (a b:Nat):(txt s).extract a b=txt ((s.take b).drop a):=by
 apply ByteArray.ext
 rw[ByteArray.data_extract]
 apply Array.toList_inj.1
 simp[txt,List.extract_eq_take_drop]
 try rw[List.drop_take]
theorem take_drop_mid (s:List UInt8) (a n:Nat):(s.take (a+n)).drop a=(s.drop a).take n:=by
 rw[List.drop_take]
 congr 1
 omega
theorem raw_yes {s:List UInt8} {a n:Nat} (h:a+n≤s.length):rRaw n (s.drop a)=some ((s.drop a).take n,s.drop (a+n)):=by
 unfold rRaw
 rw[if_pos (by rw[List.length_drop];omega),Int.toNat_natCast,List.drop_drop]
theorem raw_no {s:List UInt8} {a:Nat} {n:Int} (h:¬ (0≤n∧n≤(s.length:Int)-a)) (ha:a≤s.length):rRaw n (s.drop a)=none:=by
 unfold rRaw
 rw[if_neg (by rw[List.length_drop];omega)]
theorem took_word_no {st:Lft} {t:List UInt8} {x:Int} (h:Took (rRaw 4) st t none):Took rWord st x none:=by
 cases st with
 | none=>rfl
 | some l=>
  have h:rRaw 4 l=none:=h
  show rWord l=none
  unfold rRaw at h
  split at h
  ·cases h
  ·rename_i hl
   match l with
   | []=>rfl
   | [_]=>rfl
   | [_,_]=>rfl
   | [_,_,_]=>rfl
   | a::b::c::d::r=>simp at hl;omega
theorem took_word_yes {st:Lft} {t r:List UInt8} (h:Took (rRaw 4) st t (some r)):∃ b0 b1 b2 b3:UInt8,t=[b0,b1,b2,b3]∧Took rWord st ((b0.toNat:Int)+256*b1.toNat+65536*b2.toNat+16777216*b3.toNat) (some r):=by
 cases st with
 | none=>cases h
 | some l=>
  have h:rRaw 4 l=some (t,r):=h
  unfold rRaw at h
  split at h
  ·rename_i hl
   injection h with h
   injection h with h1 h2
   subst h1 h2
   match l,hl with
   | a::b::c::d::r,_=>exact⟨a,b,c,d,rfl,rfl⟩
   | [],hl=>simp at hl
   | [_],hl=>simp at hl
   | [_,_],hl=>simp at hl
   | [_,_,_],hl=>simp at hl
  ·cases h
end Go.Proofs.YtceflhffilldeaaGreat
namespace Go.Proofs.YtceflhffilldeaaGreat
open Go.RowKit ObjL Bw
abbrev rdT:TypeId:=222
theorem rd_take (p:Nat) (s:List UInt8) (st:Lft) (n:Int) (w:World) (h:RdIs rdT w p s st) (hs:s.length≤1000000) (hn:I64 n) :
  Calls Tryz.prog 167 #[.pointer (some ⟨p,0,none⟩),.int .i64 n] w fun e w'=>∃ t st',e=.returned (.tuple #[.string (txt t),.bool st'.isSome])∧Took (rRaw n) st t st'∧RdIs rdT w' p s st'∧RdK p w w'∧t.length≤s.length:=by
 obtain⟨a,bad,hB,ha,rfl⟩:=h
 have c0:=hB.cell 0
 have c1:=hB.cell 1
 have c2:=hB.cell 2
 have f1:=hB.frozen 1
 have f2:=hB.frozen 2
 simp only[gAr,gC0,gCs] at c0 c1 c2
 have hss:=txt_size s
 have hBH:=zh hB
 clear hB
 cases bad
 ·obtain⟨hn1,hn2⟩:=hn
  by_cases h0:n<0
  ·have hres:=zh (raw_no (s:=s) (a:=a) (n:=n) (by omega) ha)
   go_enter Tryz.func167,Tryz.ntmps167
   go_wp2_with fail
   go_quiet (fail)
   go_wp2_with fail
   go_ret2
   exact⟨[],none,rfl,Took.no hres.out,⟨a,true,hBH.out.drewN _ |>.set_ 2 _,ha,rfl⟩,((RdK.refl _ _).drewN _).set_ 2 _,by simp⟩
  ·have hd0:decide (n<0)=false:=decide_eq_false h0
   obtain⟨N,rfl⟩:∃ N:Nat,n=N:=⟨n.toNat,by omega⟩
   by_cases h1:(s.length:Int)-a<N
   ·have hres:=zh (raw_no (s:=s) (a:=a) (n:=N) (by omega) ha)
    have hw1:IntKind.i64.wrap ((s.length:Int)-a)=(s.length:Int)-a:=by rw[IntKind.wrap_i64];omega
    go_enter Tryz.func167,Tryz.ntmps167
    go_wp2_with fail
    go_quiet (fail)
    go_wp2_with fail
    go_ret2
    exact⟨[],none,rfl,Took.no hres.out,⟨a,true,hBH.out.drewN _ |>.set_ 2 _,ha,rfl⟩,((RdK.refl _ _).drewN _).set_ 2 _,by simp⟩
   ·have hres:=zh (raw_yes (s:=s) (a:=a) (n:=N) (by omega))
    have hw1:IntKind.i64.wrap ((s.length:Int)-a)=(s.length:Int)-a:=by rw[IntKind.wrap_i64];omega
    have hw2:IntKind.i64.wrap ((a:Int)+N)=(a:Int)+N:=by rw[IntKind.wrap_i64];omega
    have hd1:decide ((s.length:Int)-a<N)=false:=decide_eq_false h1
    have haN:=zh (show a+N≤s.length by omega)
    go_enter Tryz.func167,Tryz.ntmps167
    go_wp2_with fail
    go_quiet (fail)
    clear hw1 hd1
    have hw3:IntKind.i64.wrap ((a:Int)+N-N)=(a:Int):=by rw[IntKind.wrap_i64];omega
    have hx1:(a:Int)+N-N=a:=by omega
    go_wp2_with fail
    have B8:=zh ((hBH.out.drewN nq).set_ 1 (.int .i64 ((a:Int)+N)))
    have K8:=zh (((RdK.refl p w).drewN nq).set_ 1 (.int .i64 ((a:Int)+N)))
    generalize (w.drewN nq).setCell ⟨p,1,none⟩ (.int .i64 ((a:Int)+N))=W8 at *
    have c0:W8.cell? ⟨p,0,none⟩=some (.string (txt s)):=B8.out.cell 0
    have c1:W8.cell? ⟨p,1,none⟩=some (.int .i64 ((a:Int)+N)):=B8.out.cell 1
    have g1:(0:Int)≤(a:Int):=by omega
    have g2:(a:Int)≤(a:Int)+N:=by omega
    have g3:(a:Int)+N≤(s.length:Int):=by omega
    have g4:(0:Int)≤(a:Int)+N:=by omega
    have g5:((a:Int)+N).toNat=a+N:=by omega
    have e1:=txt_part s a (a+N)
    rw[take_drop_mid] at e1
    go_quiet (fail)
    go_wp2_with fail
    go_ret2
    exact⟨(s.drop a).take N,some (s.drop (a+N)),rfl,Took.yes hres.out,⟨a+N,false,B8.out.drewN _,haN.out,rfl⟩,K8.out.drewN _,by rw[List.length_take,List.length_drop];omega⟩
 ·go_enter Tryz.func167,Tryz.ntmps167
  go_wp2_with fail
  go_ret2
  exact⟨[],none,rfl,Took.bad _ _,⟨a,true,hBH.out,ha,rfl⟩,RdK.refl _ _,by simp⟩
theorem rd_drewN (w:World) (n:Nat):Below w.heap.size w (w.drewN n):=⟨rfl,rfl,rfl,Nat.le_refl _,fun _ _=>rfl⟩
theorem rd_bad (p:Nat) (s:List UInt8) (st:Lft) (w:World) (h:RdIs rdT w p s st) :
  Calls Tryz.prog 150 #[.pointer (some ⟨p,0,none⟩)] w fun e w'=>e=.returned (.bool st.isNone)∧w=w':=by
 obtain⟨a,bad,hB,ha,rfl⟩:=h
 have c2:=hB.cell 2
 simp only[gAr,gC0,gCs] at c2
 clear hB
 cases bad
 ·go_enter Tryz.func150,Tryz.ntmps150
  go_wp2_with fail
  go_ret
  exact⟨rfl,rfl⟩
 ·go_enter Tryz.func150,Tryz.ntmps150
  go_wp2_with fail
  go_ret
  exact⟨rfl,rfl⟩
theorem rd_end (p:Nat) (s:List UInt8) (st:Lft) (w:World) (h:RdIs rdT w p s st) (hs:s.length≤1000000) :
  Calls Tryz.prog 110 #[.pointer (some ⟨p,0,none⟩)] w fun e w'=>e=.returned (.bool (decide (st=some [])))∧∃ q,w'=w.drewN q:=by
 have BD:=fun W (h:RdIs rdT W p s st)=>zh (rd_bad p s st W h)
 have hh:=zh h
 obtain⟨a,bad,hB,ha,rfl⟩:=h
 have c0:=hB.cell 0
 have c1:=hB.cell 1
 have c2:=hB.cell 2
 simp only[gAr,gC0,gCs] at c0 c1 c2
 have hss:=txt_size s
 clear hB
 cases bad
 ·have BD:∀ W,RdIs rdT W p s (some (s.drop a))→Hid (Calls Tryz.prog 150 #[.pointer (some ⟨p,0,none⟩)] W fun e w'=>e=.returned (.bool false)∧W=w'):=BD
  have hq:Hid (decide ((if false=true then none else some (s.drop a):Lft)=some [])=((a:Int)==(s.length:Int))):=zh (by
   rw[if_neg (by decide),Bool.eq_iff_iff,decide_eq_true_eq,beq_iff_eq]
   constructor
   ·intro h
    injection h with h
    have:=congrArg List.length h
    rw[List.length_drop,List.length_nil] at this
    omega
   ·intro h
    rw[List.drop_eq_nil_of_le (by omega)])
  rw[hq.out]
  clear hq
  go_enter Tryz.func110,Tryz.ntmps110
  go_wp2_with fail
  go_quiet ((go_at_call 150;exact quiet_eq (BD _ (hh.out.below (rd_drewN _ _))).out))
  go_wp2_with fail
  go_ret
  exact⟨rfl,_,rfl⟩
 ·have BD:∀ W,RdIs rdT W p s none→Hid (Calls Tryz.prog 150 #[.pointer (some ⟨p,0,none⟩)] W fun e w'=>e=.returned (.bool true)∧W=w'):=BD
  go_enter Tryz.func110,Tryz.ntmps110
  go_wp2_with fail
  go_quiet ((go_at_call 150;exact quiet_eq (BD _ (hh.out.below (rd_drewN _ _))).out))
  go_wp2_with fail
  go_ret
  exact⟨rfl,_,rfl⟩
theorem rd_raw (p:Nat) (s:List UInt8) (st:Lft) (n:Int) (w:World) (h:RdIs rdT w p s st) (hs:s.length≤1000000) (hn:I64 n) :
  Calls Tryz.prog 140 #[.pointer (some ⟨p,0,none⟩),.int .i64 n] w (RdEnd rdT p s (rRaw n) tVal (tOk s) st w):=by
 have TK:=zh (rd_take p s st n w h hs hn)
 clear h
 go_enter Tryz.func140,Tryz.ntmps140
 go_wp2_with fail
 refine TK.out.mono ?_
 rintro e w1 ⟨t,st',rfl,h1,h2,h3,h4⟩
 have h2:=zh h2
 have h4:=zh h4
 go_wp2_with fail
 go_ret
 exact RdEnd.mk t st' rfl h1 h2.out h3 h4.out
theorem or_lo (x y:Int) (k:Nat) (hx:0≤x) (hx2:x<2 ^ k) (hy:0≤y) (hm:y % 2 ^ k=0) (hx':x<4294967296) (hy':y<4294967296):bits .or .u32 x y=x+y:=by
 have h:=or_add y x k hy hx hm hx2 hy' hx'
 rw[u32_or y x hy hy' hx hx',Nat.or_comm,← u32_or x y hx hx' hy hy'] at h
 rw[h,Int.add_comm]
theorem word_or (a b c d:Nat) (ha:a<256) (hb:b<256) (hc:c<256) (hd:d<256):bits .or .u32 (bits .or .u32 (bits .or .u32 (a:Int) ((b:Int)*256)) ((c:Int)*65536)) ((d:Int)*16777216)=(a:Int)+256*b+65536*c+16777216*d:=by
 rw[or_lo (a:Int) ((b:Int)*256) 8 (by omega) (by omega) (by omega) (by omega) (by omega) (by omega)]
 rw[or_lo _ ((c:Int)*65536) 16 (by omega) (by omega) (by omega) (by omega) (by omega) (by omega)]
 rw[or_lo _ ((d:Int)*16777216) 24 (by omega) (by omega) (by omega) (by omega) (by omega) (by omega)]
 omega
theorem rd_word (p:Nat) (s:List UInt8) (st:Lft) (w:World) (h:RdIs rdT w p s st) (hs:s.length≤1000000) :
  Calls Tryz.prog 134 #[.pointer (some ⟨p,0,none⟩)] w (RdEnd rdT p s rWord (Value.int .u32) wOk st w):=by
 have TK:=zh (rd_take p s st 4 w h hs ⟨by decide,by decide⟩)
 clear h
 go_enter Tryz.func134,Tryz.ntmps134
 go_wp2_with fail
 refine TK.out.mono ?_
 rintro e w1 ⟨t,st',rfl,h1,h2,h3,h4⟩
 have h2:=zh h2
 clear h4
 cases st' with
 | none=>
  go_wp2_with fail
  go_ret
  exact RdEnd.mk 0 none rfl (took_word_no h1) h2.out h3 ⟨by decide,by decide⟩
 | some r=>
  obtain⟨b0,b1,b2,b3,rfl,hw⟩:=took_word_yes h1
  have hw:=zh hw
  clear h1
  have q0:=b0.toNat_lt
  have q1:=b1.toNat_lt
  have q2:=b2.toNat_lt
  have q3:=b3.toNat_lt
  have i0:∀ h,(txt [b0,b1,b2,b3])[0]'h=b0:=fun _=>rfl
  have i1:∀ h,(txt [b0,b1,b2,b3])[1]'h=b1:=fun _=>rfl
  have i2:∀ h,(txt [b0,b1,b2,b3])[2]'h=b2:=fun _=>rfl
  have i3:∀ h,(txt [b0,b1,b2,b3])[3]'h=b3:=fun _=>rfl
  have hsz:(txt [b0,b1,b2,b3]).size=4:=rfl
  go_wp2_with fail
  go_quiet (fail)
  go_wp2_with fail
  go_ret
  exact RdEnd.mk _ (some r) rfl (by rw[word_or _ _ _ _ q0 q1 q2 q3];exact hw.out) (h2.out.drewN nq) (h3.drewN _) ⟨by rw[word_or _ _ _ _ q0 q1 q2 q3];omega,by rw[word_or _ _ _ _ q0 q1 q2 q3];omega⟩
theorem idx_find (l:List UInt8):Go.Lib.indexByte l 0=match l.findIdx? (·==0) with | some n=>(n:Int) | none=>-1:=by
 induction l with
 | nil=>rfl
 | cons a l ih=>
  rw[Go.Lib.indexByte,List.findIdx?_cons,ih]
  cases a==0
  ·simp only[Bool.false_eq_true,if_false]
   cases l.findIdx? (·==0) with
   | none=>rfl
   | some n=>
    have:(((n:Int))==-1)=false:=by rw[beq_eq_false_iff_ne];omega
    simp[this]
  ·simp
theorem rd_text (p:Nat) (s:List UInt8) (st:Lft) (w:World) (h:RdIs rdT w p s st) (hs:s.length≤1000000) :
  Calls Tryz.prog 102 #[.pointer (some ⟨p,0,none⟩)] w (RdEnd rdT p s rText tVal (tOk s) st w):=by
 obtain⟨a,bad,hB,ha,rfl⟩:=h
 have c0:=hB.cell 0
 have c1:=hB.cell 1
 have c2:=hB.cell 2
 have f1:=hB.frozen 1
 have f2:=hB.frozen 2
 simp only[gAr,gC0,gCs] at c0 c1 c2
 have hss:=txt_size s
 have hBH:=zh hB
 clear hB
 cases bad
 ·have e1:=txt_part s a s.length
  rw[List.take_length] at e1
  have IX:=fun W=>Tryz.strings_IndexByte (txt (s.drop a)) 0 W
  rw[txt_data] at IX
  have IX:∀ W,Hid (Calls Tryz.prog 133 #[.string (txt (s.drop a)),.int .u8 0] W fun e w'=>e=.returned (.int .i64 (Go.Lib.indexByte (s.drop a) 0))∧w'=W):=fun W=>zh (IX W)
  have hif:=idx_find (s.drop a)
  have g1:(0:Int)≤(a:Int):=by omega
  have g2:(a:Int)≤(s.length:Int):=by omega
  cases hfi:(s.drop a).findIdx? (·==0) with
  | none=>
   rw[hfi] at hif
   dsimp only at hif
   rw[hif] at IX
   have hres:=zh (show rText (s.drop a)=none by unfold rText;rw[hfi])
   clear hif hfi
   go_enter Tryz.func102,Tryz.ntmps102
   go_wp2_with fail
   go_quiet ((go_at_call 133;exact Calls.quiet_of_same (IX _).out))
   go_wp2_with fail
   go_ret
   exact RdEnd.mk [] none rfl (Took.no hres.out) ⟨a,true,(hBH.out.drewN _).set_ 2 _,ha,rfl⟩ (((RdK.refl _ _).drewN _).set_ 2 _) (Nat.zero_le _)
  | some m=>
   rw[hfi] at hif
   dsimp only at hif
   rw[hif] at IX
   have hml:m<(s.drop a).length:=(List.findIdx?_eq_some_iff_getElem.1 hfi).1
   rw[List.length_drop] at hml
   by_cases h64:(64:Int)<m
   ·have hres:=zh (show rText (s.drop a)=none by unfold rText;rw[hfi];dsimp only;rw[if_neg (by omega)])
    clear hif hfi
    go_enter Tryz.func102,Tryz.ntmps102
    go_wp2_with fail
    go_quiet ((go_at_call 133;exact Calls.quiet_of_same (IX _).out))
    go_wp2_with fail
    go_ret
    exact RdEnd.mk [] none rfl (Took.no hres.out) ⟨a,true,(hBH.out.drewN _).set_ 2 _,ha,rfl⟩ (((RdK.refl _ _).drewN _).set_ 2 _) (Nat.zero_le _)
   ·have hres:=zh (show rText (s.drop a)=some ((s.drop a).take m,s.drop (a+m+1)) by unfold rText;rw[hfi];dsimp only;rw[if_pos (by omega),List.drop_drop,Nat.add_assoc])
    have hal:=zh (show a+m+1≤s.length by omega)
    have h64':(m:Int)≤64:=by omega
    clear hif hfi
    go_enter Tryz.func102,Tryz.ntmps102
    go_wp2_with fail
    go_quiet ((go_at_call 133;exact Calls.quiet_of_same (IX _).out))
    go_upto_region 8 with fail
    have B8:=zh ((hBH.out.drewN nq).set_ 1 (.int .i64 ((a:Int)+((m:Int)+1))))
    have K8:=zh (((RdK.refl p w).drewN nq).set_ 1 (.int .i64 ((a:Int)+((m:Int)+1))))
    generalize (w.drewN nq).setCell ⟨p,1,none⟩ (.int .i64 ((a:Int)+((m:Int)+1)))=W8 at *
    have c0:W8.cell? ⟨p,0,none⟩=some (.string (txt s)):=B8.out.cell 0
    have c1:W8.cell? ⟨p,1,none⟩=some (.int .i64 ((a:Int)+((m:Int)+1))):=B8.out.cell 1
    have r1:(a:Int)+((m:Int)+1)-m=a+1:=by omega
    have r2:(a:Int)+1-1=a:=by omega
    have r3:(a:Int)+((m:Int)+1)-1=(a:Int)+m:=by omega
    have hw1:IntKind.i64.wrap ((a:Int)+((m:Int)+1)-m)=(a:Int)+1:=by rw[IntKind.wrap_i64];omega
    have hw2:IntKind.i64.wrap ((a:Int)+1-1)=(a:Int):=by rw[IntKind.wrap_i64];omega
    have hw3:IntKind.i64.wrap ((a:Int)+((m:Int)+1)-1)=(a:Int)+m:=by rw[IntKind.wrap_i64];omega
    have g3:(a:Int)+m≤(s.length:Int):=by omega
    have g4:(0:Int)≤(a:Int)+m:=by omega
    have g6:(a:Int)≤(a:Int)+m:=by omega
    have g5:((a:Int)+m).toNat=a+m:=by omega
    have e2:=txt_part s a (a+m)
    rw[take_drop_mid] at e2
    clear e1 IX
    go_quiet (fail)
    go_wp2_with fail
    go_ret
    exact RdEnd.mk ((s.drop a).take m) (some (s.drop (a+m+1))) rfl (Took.yes hres.out) ⟨a+m+1,false,B8.out.drewN _,hal.out,rfl⟩ (K8.out.drewN _) (by unfold tOk;rw[List.length_take,List.length_drop];omega)
 ·go_enter Tryz.func102,Tryz.ntmps102
  go_wp2_with fail
  go_ret
  exact RdEnd.mk [] none rfl (Took.bad _ _) ⟨a,true,hBH.out,ha,rfl⟩ (RdK.refl _ _) (Nat.zero_le _)
end Go.Proofs.YtceflhffilldeaaGreat
