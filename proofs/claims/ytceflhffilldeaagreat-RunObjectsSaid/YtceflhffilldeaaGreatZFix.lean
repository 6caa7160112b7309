/-
  Joined: ZFix.
-/
import Derived.Test.YtceflhffilldeaaGreatZBits
import Derived.Test.YtceflhffilldeaaGreatZKept
import Derived.Deep.MidRow
import Derived.Deep.AppendLies
import Derived.Deep.Onto
set_option linter.unusedVariables false
set_option linter.unusedSimpArgs false
set_option maxRecDepth 100000
set_option maxHeartbeats 16000000
namespace Go.Proofs.YtceflhffilldeaaGreat
open Go.RowKit Bw
theorem kept_drewN {S:Nat→Prop} (w:World) (k:Nat):Kept S w (w.drewN k):=(Kept.refl S w).drewN k
theorem get_kept (x lo n:Int) (w:World) (hx:0≤x) (hx':x<4294967296) (hl:-9223372036854775808≤lo) (hl':lo≤9223372036854775807) (hn:-9223372036854775808≤n) (hn':n≤9223372036854775807) :
  Calls Tryz.prog 125 #[.int .u32 x,.int .i64 lo,.int .i64 n] w fun e w'=>e=.returned (.int .u32 (Get x lo n))∧Kept (fun _=>True) w w':=
 (bits_get x lo n w hx hx' hl hl' hn hn').mono fun e w' h=>⟨h.1,by obtain⟨k,rfl⟩:=h.2;exact kept_drewN w k⟩
theorem fix_parts (w0:Int) (w:World) (h0:0≤w0) (h1:w0<4294967296) :
  Calls Tryz.prog 114 #[.int .u32 w0] w fun e w'=>e=.returned (.tuple #[.int .i64 (Fx.reg w0),.int .i64 (Fx.sort w0),.int .i64 (Fx.mod w0),.int .i64 (Fx.back w0),.bool (Fx.isLink w0)])∧Kept (fun _=>True) w w':=by
 have G1:=fun W=>zh (get_kept w0 14 6 W h0 h1 (by decide) (by decide) (by decide) (by decide))
 have G2:=fun W=>zh (get_kept w0 26 2 W h0 h1 (by decide) (by decide) (by decide) (by decide))
 have G3:=fun W=>zh (get_kept w0 20 6 W h0 h1 (by decide) (by decide) (by decide) (by decide))
 have G4:=fun W=>zh (get_kept w0 0 14 W h0 h1 (by decide) (by decide) (by decide) (by decide))
 rw[Fx.get14] at G1
 rw[Fx.get26] at G2
 rw[Fx.get20] at G3
 rw[Fx.get0] at G4
 unfold Fx.reg Fx.sort Fx.mod Fx.back
 cases hl:Fx.isLink w0
 ·have e1:((w0 / 16384 % 64) != 0)=true:=by simpa [Fx.isLink,bne] using hl
  clear hl
  generalize w0 / 16384 % 64=q at *
  go_enter Tryz.func114,Tryz.ntmps114
  go_wp2_with fail
  refine(G1 _).out.mono ?_
  rintro e w1 ⟨rfl,k1⟩
  go_wp2_with fail
  refine bodyPost_ret (by simp only[results,Tryz.results114];go_simp;rfl) rfl ⟨?_,k1⟩
  simp
 ·have e1:(w0 / 16384 % 64)=0:=by simpa [Fx.isLink] using hl
  clear hl
  go_enter Tryz.func114,Tryz.ntmps114
  go_wp2_with fail
  refine(G1 _).out.mono ?_
  rintro e w1 ⟨rfl,k1⟩
  go_wp2_with fail
  refine(G2 _).out.mono ?_
  rintro e w2 ⟨rfl,k2⟩
  go_wp2_with fail
  refine(G3 _).out.mono ?_
  rintro e w3 ⟨rfl,k3⟩
  go_wp2_with fail
  refine(G4 _).out.mono ?_
  rintro e w4 ⟨rfl,k4⟩
  go_wp2_with fail
  refine bodyPost_ret (by simp only[results,Tryz.results114];go_simp;rfl) rfl ⟨?_,((k1.trans k2).trans k3).trans k4⟩
  simp
end Go.Proofs.YtceflhffilldeaaGreat
namespace Go.Proofs.YtceflhffilldeaaGreat
open Go.RowKit Bw
end Go.Proofs.YtceflhffilldeaaGreat
namespace Go.Proofs.YtceflhffilldeaaGreat
open Go.RowKit Bw
theorem int_info_:(Tryz.prog.info? 3).map (fun i=>(i.zero,i.size,i.bytes))=some (some (.int .i64 0),1,8):=by kernel_rfl
theorem fc_add0 (g j:Nat):(⟨g,0,none⟩:Addr).add j=⟨g,j,none⟩:=by rw[Addr.add_mid];simp
theorem fc_news1 (w:World) (t:TypeId) (v:Value):∀ (j:Nat) (u:Value),[v][j]?=some u→(w.alloc (.cells #[v] t)).cell? ((⟨w.heap.size,0,none⟩:Addr).add j)=some u:=by
 intro j u hj
 rw[fc_add0,cell_of_row _ _ j _ _ _ (heap_alloc_new w (.cells #[v] t))]
 simpa using hj
theorem fc_own_below {w w':World} {base:Nat} {e:TypeId} {size n:Nat} {v:Value} {xs:List Value} (h:w.ownsRow base e size v n xs) (hb:Below w.heap.size w w'):w'.ownsRow base e size v n xs:=by
 refine⟨h.1,?_⟩
 rcases h.2 with h2 | ⟨g,cap,cur,hv,hg,hh,r⟩
 ·exact Or.inl h2
 ·exact Or.inr ⟨g,cap,cur,hv,hg,(hb.block g (Array.getElem?_eq_some_iff.1 hh).1).trans hh,r⟩
def Fx.clist (code:List Int) (head:Int):List Int:=(Fx.chain code head).getD []
def Fx.cerr (code:List Int) (head:Int):Int:=if (Fx.chain code head).isSome=true then 0 else 220
def U32s (l:List Int):Prop:=∀ i,i<l.length→0≤l.getD i 0∧l.getD i 0<4294967296
theorem fc_or {P Q R:Prop} (h:¬ (P∨Q∨R)):¬ P∧¬ Q∧¬ R:=by
 refine⟨fun a=>h (Or.inl a),fun a=>h (Or.inr (Or.inl a)),fun a=>h (Or.inr (Or.inr a))⟩
theorem cerr_none {code:List Int} {head:Int} (h:Fx.chain code head=none):Fx.cerr code head=220∧Fx.clist code head=[]:=by
 rw[Fx.cerr,Fx.clist,h];exact⟨rfl,rfl⟩
theorem cerr_some {code l:List Int} {head:Int} (h:Fx.chain code head=some l):Fx.cerr code head=0∧Fx.clist code head=l:=by
 rw[Fx.cerr,Fx.clist,h];exact⟨rfl,rfl⟩
def ChainEnd (base:Nat) (code:List Int) (head:Int) (e:Ending) (w:World):Prop:=
 ∃ v,e=.returned (.tuple #[v,.int .i64 (Fx.cerr code head)])∧w.ownsRow base 3 1 v (Fx.clist code head).length ((Fx.clist code head).map (Value.int .i64))
theorem chainEnd_none {base:Nat} {code:List Int} {head:Int} (w:World) (h:Fx.chain code head=none):ChainEnd base code head (.returned (.tuple #[.slice none 0 0,.int .i64 220])) w:=by
 obtain⟨h1,h2⟩:=cerr_none h
 rw[ChainEnd,h1,h2]
 exact⟨_,rfl,World.ownsRow_nil _ _ _ _⟩
theorem chainEnd_some {base:Nat} {code l:List Int} {head:Int} {w:World} {v:Value} (h:Fx.chain code head=some l) (hown:w.ownsRow base 3 1 v l.length (l.map (Value.int .i64))):ChainEnd base code head (.returned (.tuple #[v,.int .i64 0])) w:=by
 obtain⟨h1,h2⟩:=cerr_some h
 rw[ChainEnd,h1,h2]
 exact⟨_,rfl,hown⟩
theorem fix_chain (code:List Int) (head:Int) (cv:Value) (w:World) (hr:Row .u32 w cv code) (hu:U32s code) (hs:code.length≤65536) (h0:-9223372036854775808≤head) (h1:head≤9223372036854775807) :
  Calls Tryz.prog 112 #[cv,.int .i64 head] w fun e w'=>ChainEnd w.heap.size code head e w'∧Below w.heap.size w w':=by
 have hr':=zh hr
 obtain⟨hm,A,c,rfl,hc⟩:=hr
 have hc:=zh hc
 have hu:=zh hu
 obtain⟨i0,hi0,hz0,hz1,hz2⟩:=info_parts int_info_
 go_enter Tryz.func112,Tryz.ntmps112
 go_wp2_with fail
 go_loopw [6,7] (fun o i wr=>∃ (p:Int) (n:Nat) (acc:List Int),i=.int .i64 p∧-9223372036854775808≤p∧p≤9223372036854775807∧p<(n:Int)∧Hid (Fx.Good code acc)∧Hid (wr.ownsRow w.heap.size 3 1 o acc.length (acc.map (Value.int .i64)))∧Below w.heap.size w wr∧Hid (p=-1→acc.length=0→Fx.chain code head=some [])∧Hid (¬ (p=-1∧acc.length=0)→Fx.chain code head=Fx.go code n acc p)) (fun _ i _=>(intOf i+16385).toNat)
 case atStart=>
  refine⟨head,head.toNat+1,[],rfl,h0,h1,by omega,zh (Fx.good_nil code),zh (World.ownsRow_nil _ _ _ _),Below.refl _ _,zh (fun h _=>by rw[Fx.chain,if_pos h]),zh (fun h=>by rw[Fx.chain,if_neg (fun e=>h ⟨e,rfl⟩)])⟩
 case round=>
  obtain⟨p,n,acc,rfl,p0,p1,hn,hg,hown,hb,he1,he2⟩:=hrel
  have hlen:=hg.out.len
  obtain⟨hma,A1,c1,rfl,ha⟩:=row_of_own hown.out
  have ha:=zh ha
  by_cases hz:p=-1∧acc.length=0
  ·obtain⟨rfl,hz⟩:=hz
   have hres:=he1.out rfl hz
   have hz':(acc.length:Int)=0:=by omega
   have hown2:=hown
   rw[List.eq_nil_of_length_eq_zero hz] at hown2
   have hres:=zh hres
   clear he1 he2 hg
   go_wp2_with fail
   go_ret2
   exact⟨chainEnd_some hres.out (by simpa [hz] using hown2.out),hb⟩
  ·have hgo:=zh (he2.out hz)
   have hin:((p==-1)=false)∨((p==-1)=true∧0<(acc.length:Int)):=by
    rw[beq_iff_eq,beq_eq_false_iff_ne];omega
   clear he1 he2
   by_cases hbad:p<0∨(code.length:Int)-1≤p∨(0<acc.length∧acc.getD (acc.length-1) 0-2<p)
   ·have hres:=zh (hgo.out.trans (Fx.go_none code n acc p hbad))
    have hbd:(p=-1∧0<(acc.length:Int))∨(p<0∧p≠-1)∨(0≤p∧(code.length:Int)-1≤p)∨(0≤p∧p<(code.length:Int)-1∧∃ m:Nat,acc.length=m+1∧acc.getD m 0-2<p):=by
     by_cases q0:p<0
     ·omega
     by_cases q1:(code.length:Int)-1≤p
     ·omega
     have q2:0<acc.length∧acc.getD (acc.length-1) 0-2<p:=by omega
     exact Or.inr (Or.inr (Or.inr ⟨by omega,by omega,acc.length-1,by omega,q2.2⟩))
    clear hbad hgo hz
    rcases hbd with ⟨rfl,h⟩ | ⟨h,h2⟩ | ⟨h,h2⟩ | ⟨h,h2,m,hm,h3⟩
    ·clear hin
     go_wp2_with fail
     go_ret2
     exact⟨chainEnd_none _ hres.out,hb⟩
    ·have e1:(p==-1)=false:=by rw[beq_eq_false_iff_ne];exact h2
     clear hin
     go_wp2_with fail
     go_ret2
     exact⟨chainEnd_none _ hres.out,hb⟩
    ·have e1:(p==-1)=false:=by rw[beq_eq_false_iff_ne];omega
     clear hin
     go_wp2_with fail
     go_ret2
     exact⟨chainEnd_none _ hres.out,hb⟩
    ·have e1:(p==-1)=false:=by rw[beq_eq_false_iff_ne];omega
     clear hin
     obtain⟨ad,rfl,-,hcell⟩:=ha.out m (by omega)
     have h4:=(hg.out m (by omega)).1
     have h5:=(hg.out m (by omega)).2.1
     have hm':(acc.length:Int)=(m:Int)+1:=by omega
     rw[hm] at *
     generalize acc.getD m 0=z at *
     go_wp2_with fail
     go_ret2
     exact⟨chainEnd_none _ hres.out,hb⟩
   ·obtain⟨q0,q1,q2⟩:=fc_or hbad
    obtain⟨k,rfl⟩:∃ k:Nat,p=k:=⟨p.toNat,by omega⟩
    have k1:(k:Int)<(code.length:Int)-1:=by omega
    have e1:((k:Int)==-1)=false:=by rw[beq_eq_false_iff_ne];omega
    obtain⟨-,A2,c2,e2,hc2⟩:=hr'.out.below hb
    injection e2 with e2 _ e3
    subst e2 e3
    obtain⟨ad,rfl,had,hcell⟩:=hc2 k (by omega)
    clear hc2 hin
    have hx:=hu.out k (by omega)
    have hg1:=fun h1=>zh (Fx.good_snoc hg.out hbad h1)
    have hno:=fun h1=>zh (hgo.out.trans (Fx.go_no code n acc k h1))
    have hend:=fun h1 h2=>zh (hgo.out.trans (Fx.go_end code n acc k hn hbad h1 h2))
    have hon:=fun h1 h2=>zh (Fx.go_on code n acc k hn hbad h1 h2)
    simp only[Int.toNat_natCast] at hg1 hno hend hon
    have FP:=fun W=>zh (fix_parts (code.getD k 0) W hx.1 hx.2)
    have hbk:=Fx.back_bd (code.getD k 0)
    generalize code.getD k 0=x at *
    have hgo:=zh hgo.out
    have hm1:acc.length+1≤9223372036854775807:=by omega
    have hacc:(acc.length:Int)=0∨∃ (m:Nat) (a1:Addr),A1=some a1∧(acc.length:Int)=(m:Int)+1∧(k:Int)≤acc.getD m 0-2∧acc.getD m 0+2≤code.length∧wr.cell? (a1.add m)=some (.int .i64 (acc.getD m 0)):=by
     by_cases h:acc.length=0
     ·exact Or.inl (by omega)
     ·obtain⟨a1,e4,-,h5⟩:=ha.out (acc.length-1) (by omega)
      have h6:=(hg.out (acc.length-1) (by omega)).2.1
      exact Or.inr ⟨acc.length-1,a1,e4,by omega,by omega,by omega,h5⟩
    clear q2 hbad hz hma ha
    have hacc:(acc.length:Int)=0∨∃ (m:Nat) (a1:Addr) (z:Int),A1=some a1∧(acc.length:Int)=(m:Int)+1∧(k:Int)≤z-2∧z+2≤code.length∧wr.cell? (a1.add m)=some (.int .i64 z):=by
     rcases hacc with h | ⟨m,a1,h⟩
     ·exact Or.inl h
     ·exact Or.inr ⟨m,a1,_,h⟩
    rcases hacc with hz | ⟨m,a1,z,rfl,hz,h3,h4,h5⟩
    ·go_wp2_with fail
     refine(FP _).out.mono ?_
     rintro e w1 ⟨rfl,kp⟩
     have hown1:=zh (fc_own_below hown.out kp.all_below)
     have B1:Below w.heap.size w w1:=hb.trans kp.all_below
     cases hl:Fx.isLink x
     ·go_wp2_with fail
      go_ret2
      exact⟨chainEnd_none _ (hno hl).out,B1⟩
     ·have hl:=zh hl
      have hB0:=B1.size
      by_cases hbz:Fx.back x=0
      ·have hr1:=hend hl.out hbz
       have hbz':(Fx.back x==0)=true:=by rw[hbz];rfl
       clear hbz
       go_wp2_with (at_builtin;refine wpList_append_own _ rfl (.tmp 59) (.tmp 61) 46 rfl w.heap.size 3 i0 _ 1 8 Tryz.underlying46 hi0 hz0 hz1 hz2 rfl (by omega) _ acc.length _ rfl (hown1.out.alloc _) ⟨w1.heap.size,0,none⟩ 1 1 [.int .i64 k] rfl rfl (fc_news1 w1 _ _) (by simp[Value.oneCell']) (by simp only[maxLen];omega) (by omega) (by simp;omega) ?_;intro v2 w2 hown2 hg2 _)
       have hown2:Hid (w2.ownsRow w.heap.size 3 1 v2 (acc++[(k:Int)]).length ((acc++[(k:Int)]).map (Value.int .i64))):=zh (by rw[List.map_append,List.length_append];exact hown2)
       have B2:Below w.heap.size w w2:=(B1.alloc B1.size _).grown hg2 (by simp;omega) (fun q hq=>(hown1.out.lt q hq).1)
       go_ret2
       exact⟨chainEnd_some hr1.out hown2.out,B2⟩
      ·obtain⟨n',hn',hgo'⟩:=(hon hl.out hbz).out
       have hgood:=hg1 hl.out
       have hgo':=zh (hgo.out.trans hgo')
       have hbz':(Fx.back x==0)=false:=by rw[beq_eq_false_iff_ne];exact hbz
       clear hno hend hon hg1 FP
       go_wp2_with (at_builtin;refine wpList_append_own _ rfl (.tmp 59) (.tmp 61) 46 rfl w.heap.size 3 i0 _ 1 8 Tryz.underlying46 hi0 hz0 hz1 hz2 rfl (by omega) _ acc.length _ rfl (hown1.out.alloc _) ⟨w1.heap.size,0,none⟩ 1 1 [.int .i64 k] rfl rfl (fc_news1 w1 _ _) (by simp[Value.oneCell']) (by simp only[maxLen];omega) (by omega) (by simp;omega) ?_;intro v2 w2 hown2 hg2 _)
       have hown2:Hid (w2.ownsRow w.heap.size 3 1 v2 (acc++[(k:Int)]).length ((acc++[(k:Int)]).map (Value.int .i64))):=zh (by rw[List.map_append,List.length_append];exact hown2)
       have B2:Below w.heap.size w w2:=(B1.alloc B1.size _).grown hg2 (by simp;omega) (fun q hq=>(hown1.out.lt q hq).1)
       have hlen2:(acc++[(k:Int)]).length=acc.length+1:=by simp
       refine⟨⟨k-Fx.back x,n',acc++[(k:Int)],by go_num,by omega,by omega,by omega,hgood,hown2,B2,zh (fun _ h=>by omega),zh (fun _=>hgo'.out)⟩,?_⟩
       simp only[intOf]
       omega
    ·go_wp2_with fail
     refine(FP _).out.mono ?_
     rintro e w1 ⟨rfl,kp⟩
     have hown1:=zh (fc_own_below hown.out kp.all_below)
     have B1:Below w.heap.size w w1:=hb.trans kp.all_below
     cases hl:Fx.isLink x
     ·go_wp2_with fail
      go_ret2
      exact⟨chainEnd_none _ (hno hl).out,B1⟩
     ·have hl:=zh hl
      have hB0:=B1.size
      by_cases hbz:Fx.back x=0
      ·have hr1:=hend hl.out hbz
       have hbz':(Fx.back x==0)=true:=by rw[hbz];rfl
       clear hbz
       go_wp2_with (at_builtin;refine wpList_append_own _ rfl (.tmp 59) (.tmp 61) 46 rfl w.heap.size 3 i0 _ 1 8 Tryz.underlying46 hi0 hz0 hz1 hz2 rfl (by omega) _ acc.length _ rfl (hown1.out.alloc _) ⟨w1.heap.size,0,none⟩ 1 1 [.int .i64 k] rfl rfl (fc_news1 w1 _ _) (by simp[Value.oneCell']) (by simp only[maxLen];omega) (by omega) (by simp;omega) ?_;intro v2 w2 hown2 hg2 _)
       have hown2:Hid (w2.ownsRow w.heap.size 3 1 v2 (acc++[(k:Int)]).length ((acc++[(k:Int)]).map (Value.int .i64))):=zh (by rw[List.map_append,List.length_append];exact hown2)
       have B2:Below w.heap.size w w2:=(B1.alloc B1.size _).grown hg2 (by simp;omega) (fun q hq=>(hown1.out.lt q hq).1)
       go_ret2
       exact⟨chainEnd_some hr1.out hown2.out,B2⟩
      ·obtain⟨n',hn',hgo'⟩:=(hon hl.out hbz).out
       have hgood:=hg1 hl.out
       have hgo':=zh (hgo.out.trans hgo')
       have hbz':(Fx.back x==0)=false:=by rw[beq_eq_false_iff_ne];exact hbz
       clear hno hend hon hg1 FP
       go_wp2_with (at_builtin;refine wpList_append_own _ rfl (.tmp 59) (.tmp 61) 46 rfl w.heap.size 3 i0 _ 1 8 Tryz.underlying46 hi0 hz0 hz1 hz2 rfl (by omega) _ acc.length _ rfl (hown1.out.alloc _) ⟨w1.heap.size,0,none⟩ 1 1 [.int .i64 k] rfl rfl (fc_news1 w1 _ _) (by simp[Value.oneCell']) (by simp only[maxLen];omega) (by omega) (by simp;omega) ?_;intro v2 w2 hown2 hg2 _)
       have hown2:Hid (w2.ownsRow w.heap.size 3 1 v2 (acc++[(k:Int)]).length ((acc++[(k:Int)]).map (Value.int .i64))):=zh (by rw[List.map_append,List.length_append];exact hown2)
       have B2:Below w.heap.size w w2:=(B1.alloc B1.size _).grown hg2 (by simp;omega) (fun q hq=>(hown1.out.lt q hq).1)
       have hlen2:(acc++[(k:Int)]).length=acc.length+1:=by simp
       refine⟨⟨k-Fx.back x,n',acc++[(k:Int)],by go_num,by omega,by omega,by omega,hgood,hown2,B2,zh (fun _ h=>by omega),zh (fun _=>hgo'.out)⟩,?_⟩
       simp only[intOf]
       omega
end Go.Proofs.YtceflhffilldeaaGreat
namespace Go.Proofs.YtceflhffilldeaaGreat
open Go.RowKit Bw
end Go.Proofs.YtceflhffilldeaaGreat
