/-
  Joined: ZRun.
-/
import Derived.Test.YtceflhffilldeaaGreatZKit
import Derived.WalkMore
set_option linter.unusedVariables false
set_option linter.unusedSimpArgs false
set_option maxRecDepth 100000
set_option maxHeartbeats 16000000
namespace Go.Proofs.YtceflhffilldeaaGreat
open Go.RowKit Bw
def insEnd (l:List Int) (n:Nat) (D:Nat→Int) (i:Nat):Int:=if i+1<n then D (i+1) else if 4<l.length then l.getD 4 0 / 4 else 0
def insHit (l:List Int) (n:Nat) (D C:Nat→Int) (at_:Int) (i:Nat):Bool:=decide (C i≤at_) && decide (at_<insEnd l n D i)
def insAny (l:List Int) (n:Nat) (D C:Nat→Int) (at_:Int) (k:Nat):Bool:=(List.range k).any (insHit l n D C at_)
def insHead (n:Nat) (D:Nat→Int) (at_:Int):Bool:=decide (0<n) && decide (8≤at_) && decide (at_<D 0)
theorem insAny_succ (l:List Int) (n:Nat) (D C:Nat→Int) (at_:Int) (k:Nat):insAny l n D C at_ (k+1)=(insAny l n D C at_ k || insHit l n D C at_ k):=by
 simp[insAny,List.range_succ]
theorem insAny_le {l:List Int} {n:Nat} {D C:Nat→Int} {at_:Int} {k m:Nat} (hk:k≤m) (h:insAny l n D C at_ k=true):insAny l n D C at_ m=true:=by
 simp only[insAny,List.any_eq_true,List.mem_range] at h ⊢
 obtain⟨i,hi,hh⟩:=h
 exact⟨i,by omega,hh⟩
end Go.Proofs.YtceflhffilldeaaGreat
namespace Go.Proofs.YtceflhffilldeaaGreat
open Go.RowKit Bw
theorem run_insideZ (l:List Int) (n:Nat) (D C:Nat→Int) (st at_:Int) (vW vM:Value) (w:World) (h:Row .u32 w vW l) (hM:MTab w vM n D C) (hu:4<l.length→Mc.W32 (l.getD 4 0)) (hn:n≤100) :
  Calls Tryz.prog 23 #[.agg #[vW,.int .i64 st,vM],.int .i64 at_] w fun e w'=>e=.returned (.bool (insAny l n D C at_ n || insHead n D at_))∧Below w.heap.size w w':=by
 have B1:Below w.heap.size w (w.alloc (.cells #[vW,.int .i64 st,vM] 33)):=(Below.refl _ _).alloc (Nat.le_refl _) _
 have h1:=zh (h.below B1)
 have M1:=zh (hM.below B1)
 have B1:=zh B1
 have hu:=zh hu
 have hn':(n:Int)≤100:=by omega
 obtain⟨hm,A,c,rfl,hc⟩:=h
 obtain⟨hm2,A2,c2,rfl,hc2⟩:=hM
 clear hc hc2
 go_enter Tryz.func23,Tryz.ntmps23
 go_wp2_with fail
 have I0:=Blk.new w 33 #[.slice A l.length c,.int .i64 st,.slice A2 n c2]
 generalize hW:w.alloc (.cells #[.slice A l.length c,.int .i64 st,.slice A2 n c2] 33)=W at *
 clear hW
 have c0:=I0.cell 0
 have c2:=I0.cell 2
 simp only[gAr,gC0,gCs] at c0 c2
 have I0:=zh I0
 go_step3
 go_wp2_with fail
 go_step3
 go_wp2_with fail
 go_loop [5,11] (fun o i=>o=.bool false∧∃ k:Nat,i=.int .i64 k∧k≤n∧Hid (insAny l n D C at_ k=false∧(0<k→insHead n D at_=false))) (fun _ i=>n-(intOf i).toNat)
 case atStart=>exact⟨rfl,0,rfl,by omega,zh ⟨rfl,fun h=>absurd h (by omega)⟩⟩
 case round=>
  obtain⟨rfl,k,rfl,hk,hno⟩:=hrel
  by_cases hlt:(k:Int)<(n:Int)
  ·have hkn:k<n:=by omega
   obtain⟨_,A2',c2',e2,hc2⟩:=M1.out
   injection e2 with e2 _ e3
   subst e2 e3
   obtain⟨ad,rfl,had,hD,hC⟩:=hc2 k hkn
   obtain⟨ad',e1,_,hD0,_⟩:=hc2 0 (by omega)
   injection e1 with e1
   subst e1
   have xD0:W.cell? ⟨ad.block,ad.off+2,none⟩=some (.int .i64 (D 0)):=by simpa [Addr.add] using hD0
   have xC:W.cell? ⟨(ad.add (k*6)).block,(ad.add (k*6)).off+5,none⟩=some (.int .i64 (C k)):=hC
   have hsucc:=zh (insAny_succ l n D C at_ k)
   obtain⟨K1,hK1⟩:∃ K1:Nat,k+1=K1:=⟨_,rfl⟩
   have hkw:IntKind.i64.wrap ((k:Int)+1)=(K1:Int):=by rw[IntKind.wrap_i64];omega
   obtain⟨E,hE⟩:∃ E,insEnd l n D k=E:=⟨_,rfl⟩
   have hhit:Hid (insHit l n D C at_ k=(decide (C k≤at_) && decide (at_<E))):=zh (by rw[insHit,hE])
   have hK1':=zh hK1
   have hfin0:∀ b:Bool,(decide (C k≤at_) && decide (at_<E))=b→Hid (insAny l n D C at_ K1=b):=fun b hb=>zh (by rw[← hK1,hsucc.out,hno.out.1,hhit.out,hb,Bool.false_or])
   have hfin:=zh hfin0
   have hhead:Hid (insHead n D at_=(decide (8≤at_) && decide (at_<D 0))):=zh (by rw[insHead,decide_eq_true (by omega:0<n),Bool.true_and])
   clear hfin0 hD hC hD0
   obtain⟨CK,hCK⟩:∃ CK,C k=CK:=⟨_,rfl⟩
   rw[hCK] at xC hfin hhit
   obtain⟨D0,hD0⟩:∃ D0,D 0=D0:=⟨_,rfl⟩
   rw[hD0] at xD0 hhead
   clear hCK hD0
   by_cases kz:k=0
   ·have hkz:((k:Int)==0)=true:=by rw[beq_iff_eq];omega
    have kz':=zh kz
    clear kz
    by_cases c8:(8:Int)≤at_
    ·by_cases cD:at_<D0
     ·clear hE hc2 hK1 hhit hsucc
      go_wp2_with fail
      go_ret
      exact⟨by rw[hhead.out];simp[c8,cD],B1.out⟩
     ·have hhn:Hid (insHead n D at_=false):=zh (by rw[hhead.out];simp[cD])
      clear hhead
      by_cases hk1:(K1:Int)<(n:Int)
      ·obtain⟨ad',e1,_,hD1,_⟩:=hc2 K1 (by omega)
       injection e1 with e1
       subst e1
       have hED:E=D K1:=by rw[← hE,insEnd,hK1,if_pos (by omega)]
       have xD:W.cell? ⟨(ad.add (K1*6)).block,(ad.add (K1*6)).off+2,none⟩=some (.int .i64 E):=by rw[hED];exact hD1
       clear hE hED hc2 hD1 hK1 hhit hsucc
       have hkK:=hK1'.out
       by_cases h1:CK≤at_
       ·by_cases h2:at_<E
        ·clear hkK
         go_wp2_with fail
         go_ret
         have hf:=hfin.out true (by simp[h1,h2])
         have hkK:=hK1'.out
         exact⟨by rw[insAny_le (m:=n) (by omega) hf.out,Bool.true_or];rfl,B1.out⟩
        ·clear hkK
         go_wp2_with fail
         have hkK:=hK1'.out
         exact⟨⟨rfl,K1,rfl,by omega,zh ⟨(hfin.out false (by simp[h2])).out,fun _=>hhn.out⟩⟩,by simp only[intOf];omega⟩
       ·clear hkK
        go_wp2_with fail
        have hkK:=hK1'.out
        exact⟨⟨rfl,K1,rfl,by omega,zh ⟨(hfin.out false (by simp[h1])).out,fun _=>hhn.out⟩⟩,by simp only[intOf];omega⟩
      ·by_cases h4:4<l.length
       ·have h4':(4:Int)<(l.length:Int):=by omega
        obtain⟨_,Aw,cw,e2,hcw⟩:=h1.out
        injection e2 with e2 _ e3
        subst e2 e3
        obtain⟨aw,rfl,haw,hcell⟩:=hcw 4 h4
        have hwb:=hu.out h4
        have hED:E=l.getD 4 0 / 4:=by rw[← hE,insEnd,hK1,if_neg (by omega),if_pos h4]
        unfold Mc.W32 at hwb
        generalize l.getD 4 0=w4 at *
        have x4:W.cell? ⟨aw.block,aw.off+4,none⟩=some (.int .u32 w4):=hcell
        have q1:w4.tdiv 4=E:=by rw[hED];exact Int.tdiv_eq_ediv_of_nonneg hwb.1
        have q1':w4 / 4=E:=hED.symm
        have q2:IntKind.u32.wrap E=E:=by rw[IntKind.wrap_u32];omega
        have q3:IntKind.i64.wrap E=E:=by rw[IntKind.wrap_i64];omega
        clear hE hED hcell hcw hwb hc2 hK1 hhit hsucc
        have hkK:=hK1'.out
        by_cases h1:CK≤at_
        ·by_cases h2:at_<E
         ·clear hkK
          go_wp2_with fail
          go_ret
          have hf:=hfin.out true (by simp[h1,h2])
          have hkK:=hK1'.out
          exact⟨by rw[insAny_le (m:=n) (by omega) hf.out,Bool.true_or];rfl,B1.out⟩
         ·clear hkK
          go_wp2_with fail
          have hkK:=hK1'.out
          exact⟨⟨rfl,K1,rfl,by omega,zh ⟨(hfin.out false (by simp[h2])).out,fun _=>hhn.out⟩⟩,by simp only[intOf];omega⟩
        ·clear hkK
         go_wp2_with fail
         have hkK:=hK1'.out
         exact⟨⟨rfl,K1,rfl,by omega,zh ⟨(hfin.out false (by simp[h1])).out,fun _=>hhn.out⟩⟩,by simp only[intOf];omega⟩
       ·have h4':¬ (4:Int)<(l.length:Int):=by omega
        have hED:E=0:=by rw[← hE,insEnd,hK1,if_neg (by omega),if_neg h4]
        subst hED
        clear hE hc2 hK1 hhit hsucc
        have hkK:=hK1'.out
        by_cases h1:CK≤at_
        ·by_cases h2:at_<0
         ·omega
         ·clear hkK
          go_wp2_with fail
          have hkK:=hK1'.out
          exact⟨⟨rfl,K1,rfl,by omega,zh ⟨(hfin.out false (by simp[h2])).out,fun _=>hhn.out⟩⟩,by simp only[intOf];omega⟩
        ·clear hkK
         go_wp2_with fail
         have hkK:=hK1'.out
         exact⟨⟨rfl,K1,rfl,by omega,zh ⟨(hfin.out false (by simp[h1])).out,fun _=>hhn.out⟩⟩,by simp only[intOf];omega⟩
    ·have hhn:Hid (insHead n D at_=false):=zh (by rw[hhead.out,decide_eq_false c8,Bool.false_and])
     clear hhead
     by_cases hk1:(K1:Int)<(n:Int)
     ·obtain⟨ad',e1,_,hD1,_⟩:=hc2 K1 (by omega)
      injection e1 with e1
      subst e1
      have hED:E=D K1:=by rw[← hE,insEnd,hK1,if_pos (by omega)]
      have xD:W.cell? ⟨(ad.add (K1*6)).block,(ad.add (K1*6)).off+2,none⟩=some (.int .i64 E):=by rw[hED];exact hD1
      clear hE hED hc2 hD1 hK1 hhit hsucc
      have hkK:=hK1'.out
      by_cases h1:CK≤at_
      ·by_cases h2:at_<E
       ·clear hkK
        go_wp2_with fail
        go_ret
        have hf:=hfin.out true (by simp[h1,h2])
        have hkK:=hK1'.out
        exact⟨by rw[insAny_le (m:=n) (by omega) hf.out,Bool.true_or];rfl,B1.out⟩
       ·clear hkK
        go_wp2_with fail
        have hkK:=hK1'.out
        exact⟨⟨rfl,K1,rfl,by omega,zh ⟨(hfin.out false (by simp[h2])).out,fun _=>hhn.out⟩⟩,by simp only[intOf];omega⟩
      ·clear hkK
       go_wp2_with fail
       have hkK:=hK1'.out
       exact⟨⟨rfl,K1,rfl,by omega,zh ⟨(hfin.out false (by simp[h1])).out,fun _=>hhn.out⟩⟩,by simp only[intOf];omega⟩
     ·by_cases h4:4<l.length
      ·have h4':(4:Int)<(l.length:Int):=by omega
       obtain⟨_,Aw,cw,e2,hcw⟩:=h1.out
       injection e2 with e2 _ e3
       subst e2 e3
       obtain⟨aw,rfl,haw,hcell⟩:=hcw 4 h4
       have hwb:=hu.out h4
       have hED:E=l.getD 4 0 / 4:=by rw[← hE,insEnd,hK1,if_neg (by omega),if_pos h4]
       unfold Mc.W32 at hwb
       generalize l.getD 4 0=w4 at *
       have x4:W.cell? ⟨aw.block,aw.off+4,none⟩=some (.int .u32 w4):=hcell
       have q1:w4.tdiv 4=E:=by rw[hED];exact Int.tdiv_eq_ediv_of_nonneg hwb.1
       have q1':w4 / 4=E:=hED.symm
       have q2:IntKind.u32.wrap E=E:=by rw[IntKind.wrap_u32];omega
       have q3:IntKind.i64.wrap E=E:=by rw[IntKind.wrap_i64];omega
       clear hE hED hcell hcw hwb hc2 hK1 hhit hsucc
       have hkK:=hK1'.out
       by_cases h1:CK≤at_
       ·by_cases h2:at_<E
        ·clear hkK
         go_wp2_with fail
         go_ret
         have hf:=hfin.out true (by simp[h1,h2])
         have hkK:=hK1'.out
         exact⟨by rw[insAny_le (m:=n) (by omega) hf.out,Bool.true_or];rfl,B1.out⟩
        ·clear hkK
         go_wp2_with fail
         have hkK:=hK1'.out
         exact⟨⟨rfl,K1,rfl,by omega,zh ⟨(hfin.out false (by simp[h2])).out,fun _=>hhn.out⟩⟩,by simp only[intOf];omega⟩
       ·clear hkK
        go_wp2_with fail
        have hkK:=hK1'.out
        exact⟨⟨rfl,K1,rfl,by omega,zh ⟨(hfin.out false (by simp[h1])).out,fun _=>hhn.out⟩⟩,by simp only[intOf];omega⟩
      ·have h4':¬ (4:Int)<(l.length:Int):=by omega
       have hED:E=0:=by rw[← hE,insEnd,hK1,if_neg (by omega),if_neg h4]
       subst hED
       clear hE hc2 hK1 hhit hsucc
       have hkK:=hK1'.out
       by_cases h1:CK≤at_
       ·by_cases h2:at_<0
        ·clear hkK
         go_wp2_with fail
         go_ret
         have hf:=hfin.out true (by simp[h1,h2])
         have hkK:=hK1'.out
         exact⟨by rw[insAny_le (m:=n) (by omega) hf.out,Bool.true_or];rfl,B1.out⟩
        ·clear hkK
         go_wp2_with fail
         have hkK:=hK1'.out
         exact⟨⟨rfl,K1,rfl,by omega,zh ⟨(hfin.out false (by simp[h2])).out,fun _=>hhn.out⟩⟩,by simp only[intOf];omega⟩
       ·clear hkK
        go_wp2_with fail
        have hkK:=hK1'.out
        exact⟨⟨rfl,K1,rfl,by omega,zh ⟨(hfin.out false (by simp[h1])).out,fun _=>hhn.out⟩⟩,by simp only[intOf];omega⟩
   ·have hhn:Hid (insHead n D at_=false):=zh (hno.out.2 (by omega))
    have hkz:((k:Int)==0)=false:=by rw[beq_eq_false_iff_ne];omega
    clear hhead
    by_cases hk1:(K1:Int)<(n:Int)
    ·obtain⟨ad',e1,_,hD1,_⟩:=hc2 K1 (by omega)
     injection e1 with e1
     subst e1
     have hED:E=D K1:=by rw[← hE,insEnd,hK1,if_pos (by omega)]
     have xD:W.cell? ⟨(ad.add (K1*6)).block,(ad.add (K1*6)).off+2,none⟩=some (.int .i64 E):=by rw[hED];exact hD1
     clear hE hED hc2 hD1 hK1 hhit hsucc
     have hkK:=hK1'.out
     by_cases h1:CK≤at_
     ·by_cases h2:at_<E
      ·clear hkK
       go_wp2_with fail
       go_ret
       have hf:=hfin.out true (by simp[h1,h2])
       have hkK:=hK1'.out
       exact⟨by rw[insAny_le (m:=n) (by omega) hf.out,Bool.true_or];rfl,B1.out⟩
      ·clear hkK
       go_wp2_with fail
       have hkK:=hK1'.out
       exact⟨⟨rfl,K1,rfl,by omega,zh ⟨(hfin.out false (by simp[h2])).out,fun _=>hhn.out⟩⟩,by simp only[intOf];omega⟩
     ·clear hkK
      go_wp2_with fail
      have hkK:=hK1'.out
      exact⟨⟨rfl,K1,rfl,by omega,zh ⟨(hfin.out false (by simp[h1])).out,fun _=>hhn.out⟩⟩,by simp only[intOf];omega⟩
    ·by_cases h4:4<l.length
     ·have h4':(4:Int)<(l.length:Int):=by omega
      obtain⟨_,Aw,cw,e2,hcw⟩:=h1.out
      injection e2 with e2 _ e3
      subst e2 e3
      obtain⟨aw,rfl,haw,hcell⟩:=hcw 4 h4
      have hwb:=hu.out h4
      have hED:E=l.getD 4 0 / 4:=by rw[← hE,insEnd,hK1,if_neg (by omega),if_pos h4]
      unfold Mc.W32 at hwb
      generalize l.getD 4 0=w4 at *
      have x4:W.cell? ⟨aw.block,aw.off+4,none⟩=some (.int .u32 w4):=hcell
      have q1:w4.tdiv 4=E:=by rw[hED];exact Int.tdiv_eq_ediv_of_nonneg hwb.1
      have q1':w4 / 4=E:=hED.symm
      have q2:IntKind.u32.wrap E=E:=by rw[IntKind.wrap_u32];omega
      have q3:IntKind.i64.wrap E=E:=by rw[IntKind.wrap_i64];omega
      clear hE hED hcell hcw hwb hc2 hK1 hhit hsucc
      have hkK:=hK1'.out
      by_cases h1:CK≤at_
      ·by_cases h2:at_<E
       ·clear hkK
        go_wp2_with fail
        go_ret
        have hf:=hfin.out true (by simp[h1,h2])
        have hkK:=hK1'.out
        exact⟨by rw[insAny_le (m:=n) (by omega) hf.out,Bool.true_or];rfl,B1.out⟩
       ·clear hkK
        go_wp2_with fail
        have hkK:=hK1'.out
        exact⟨⟨rfl,K1,rfl,by omega,zh ⟨(hfin.out false (by simp[h2])).out,fun _=>hhn.out⟩⟩,by simp only[intOf];omega⟩
      ·clear hkK
       go_wp2_with fail
       have hkK:=hK1'.out
       exact⟨⟨rfl,K1,rfl,by omega,zh ⟨(hfin.out false (by simp[h1])).out,fun _=>hhn.out⟩⟩,by simp only[intOf];omega⟩
     ·have h4':¬ (4:Int)<(l.length:Int):=by omega
      have hED:E=0:=by rw[← hE,insEnd,hK1,if_neg (by omega),if_neg h4]
      subst hED
      clear hE hc2 hK1 hhit hsucc
      have hkK:=hK1'.out
      by_cases h1:CK≤at_
      ·by_cases h2:at_<0
       ·clear hkK
        go_wp2_with fail
        go_ret
        have hf:=hfin.out true (by simp[h1,h2])
        have hkK:=hK1'.out
        exact⟨by rw[insAny_le (m:=n) (by omega) hf.out,Bool.true_or];rfl,B1.out⟩
       ·clear hkK
        go_wp2_with fail
        have hkK:=hK1'.out
        exact⟨⟨rfl,K1,rfl,by omega,zh ⟨(hfin.out false (by simp[h2])).out,fun _=>hhn.out⟩⟩,by simp only[intOf];omega⟩
      ·clear hkK
       go_wp2_with fail
       have hkK:=hK1'.out
       exact⟨⟨rfl,K1,rfl,by omega,zh ⟨(hfin.out false (by simp[h1])).out,fun _=>hhn.out⟩⟩,by simp only[intOf];omega⟩
  ·have hkn:k=n:=by omega
   subst hkn
   have hlt':¬ (k:Int)<(k:Int):=by omega
   have hh:insHead k D at_=false:=by
    by_cases h0:k=0
    ·rw[insHead,h0];rfl
    ·exact hno.out.2 (by omega)
   have hh:=zh hh
   go_wp2_with fail
   go_ret
   exact⟨by rw[hno.out.1,hh.out];rfl,B1.out⟩
end Go.Proofs.YtceflhffilldeaaGreat
namespace Go.Proofs.YtceflhffilldeaaGreat
open Go.RowKit Bw
theorem cpu_new0 (l:List Int) (st:Int) (s:ByteArray) (v:Value) (w:World) (h:Row .u32 w v l) (hl:l.length≤65536) (hs:s.size≤4096) (h0:0≤st) (h1:st≤l.length) :
  Calls Tryz.prog 42 #[v,.int .i64 st,.string s] w fun e w'=>∃ p mp,e=.returned (.tuple #[.pointer (some ⟨p,0,none⟩),.int .i64 0])∧Blk w' p 146 (mcells (Mc.start l st s) mp (.slice none 0 0))∧Below w.heap.size w w':=by
 have MN:=fun w' hw=>zh (mem_new l v w' hw hl)
 have h':=zh h
 obtain⟨hm,A,c,rfl,hc⟩:=h
 have hs':(s.size:Int)≤4096:=by omega
 clear hc
 go_enter Tryz.func42,Tryz.ntmps42
 go_wp2_with fail
 refine(MN _ h'.out).out.mono ?_
 rintro e w1 ⟨mp,ap,rfl,hmp,hap,hm1,hb1⟩
 have hm1:=zh hm1
 have hb1:=zh hb1
 have hmp:=zh hmp
 have hap:=zh hap
 go_wp2_with fail
 go_ret2
 refine⟨w1.heap.size,mp,rfl,?_,hb1.out.alloc hb1.out.size _⟩
 rw[mcells_start]
 exact Blk.new _ _ _
theorem runEnd_start {w:World} {p mp:Nat} {l:List Int} {st:Int} {s:ByteArray} (h:Blk w p 146 (mcells (Mc.start l st s) mp (.slice none 0 0))):RunEnd p (Mc.start l st s) (.slice none 0 0) w:=by
 rw[mcells_start] at h
 exact⟨h.cell 26,h.cell 27,h.cell 25,h.cell 24,World.ownsRow_nil _ _ _ _⟩
def ocZero:Value:=.agg #[.int .i64 3,.int .i64 0,.string ⟨#[]⟩,.int .i64 0,.int .i64 0]
theorem cpu_run0 (p mp:Nat) (l:List Int) (st:Int) (s:ByteArray) (w:World) (h:Blk w p 146 (mcells (Mc.start l st s) mp (.slice none 0 0))) :
  Calls Tryz.prog 43 #[.pointer (some ⟨p,0,none⟩),.int .i64 0] w fun e w'=>e=.returned (.tuple #[ocZero,.int .i64 0])∧Below w.heap.size w w':=by
 have hp:=h.lt
 have B0:=zh (Blk.new w 70 #[.int .i64 0,.int .i64 0,.string ⟨#[]⟩,.int .i64 0,.int .i64 0])
 have RE0:Hid (RunEnd p (Mc.start l st s) (.slice none 0 0) (w.alloc (.cells #[.int .i64 0,.int .i64 0,.string ⟨#[]⟩,.int .i64 0,.int .i64 0] 70))):=zh (runEnd_start (h.alloc _))
 have BB:=zh ((Below.refl w.heap.size w).alloc (Nat.le_refl _) (.cells #[.int .i64 0,.int .i64 0,.string ⟨#[]⟩,.int .i64 0,.int .i64 0] 70))
 have e1:Hid ((Mc.start l st s).trap=0∧(Mc.start l st s).out=[]∧(Mc.start l st s).read=0):=zh ⟨rfl,rfl,rfl⟩
 have hen:(Mc.start l st s).en=0:=rfl
 clear h
 generalize Mc.start l st s=M at *
 go_enter Tryz.func43,Tryz.ntmps43
 go_wp2_with fail
 generalize hW:w.alloc (.cells #[.int .i64 0,.int .i64 0,.string ⟨#[]⟩,.int .i64 0,.int .i64 0] 70)=W at *
 clear hW
 go_loopw [6] (fun i wr=>i=.int .i64 0∧wr=W) (fun i _=>0)
 case atStart=>exact⟨rfl,rfl⟩
 case round=>
  obtain⟨rfl,rfl⟩:=hrel
  have c26:=RE0.out.c26
  have RE:RunEnd p M (.slice none 0 0) wr.drew:=⟨RE0.out.c26,RE0.out.c27,RE0.out.c25,RE0.out.c24,RE0.out.own⟩
  have hpr:p<wr.drew.heap.size:=Nat.lt_of_lt_of_le hp BB.out.size
  have BK:=B0.out
  have b0:=BK.cell 0
  have b1:=BK.cell 1
  have b2:=BK.cell 2
  have b3:=BK.cell 3
  have b4:=BK.cell 4
  simp only[gAr,gC0,gCs] at b0 b1 b2 b3 b4
  have g0:=BK.frozen 0
  have g1:=BK.frozen 1
  have g2:=BK.frozen 2
  have g3:=BK.frozen 3
  have g4:=BK.frozen 4
  have hz:=BK.lt
  have BK:=zh BK
  go_wp2_with fail
  go_region_held3 (fun w'=>RunEnd p M (.slice none 0 0) w'∧w'.cell? ⟨p,26,none⟩=some (.int .i64 M.en)∧w'.cell? ⟨p,27,none⟩=some (.int .i64 M.trap)∧w'.cell? ⟨p,25,none⟩=some (.slice none 0 0)∧w'.cell? ⟨p,24,none⟩=some (.int .i64 M.read) ∧
    (convert 86 9 (.slice none 0 0)).run Tryz.prog w'=.ok (.string (strOfNums M.out)) w')
   (first | exact RE.all | exact(RE.alloc hpr _).all) (fail)
  have c26r:=RE.c26
  clear RE
  go_wp2_with fail
  refine bodyPost_ret (by simp only[results,Tryz.results43];go_simp;rfl) rfl ⟨?_,?_⟩
  ·obtain⟨x1,x2,x3⟩:=e1.out
   rw[x1,x2,x3]
   rfl
  ·have X:=((((BB.out.setCell (p:=⟨w.heap.size,0,none⟩) (Nat.le_refl _) (.int .i64 3)).setCell (p:=⟨w.heap.size,1,none⟩) (Nat.le_refl _) (.int .i64 M.trap)).setCell (p:=⟨w.heap.size,2,none⟩) (Nat.le_refl _) (.string (strOfNums M.out))).setCell (p:=⟨w.heap.size,3,none⟩) (Nat.le_refl _) (.int .i64 0)).setCell (p:=⟨w.heap.size,4,none⟩) (Nat.le_refl _) (.int .i64 M.read)
   exact(X.alloc X.size _).drew
theorem run_zero (l:List Int) (st:Int) (s:ByteArray) (vW vM:Value) (w:World) (h:Row .u32 w vW l) (hl:l.length≤65536) (hs:s.size≤4096) (hs0:0≤st) (hs1:st≤l.length) :
  Calls Tryz.prog 24 #[.agg #[vW,.int .i64 st,vM],.string s,.int .i64 0] w fun e w'=>e=.returned (.tuple #[ocZero,.int .i64 0])∧Below w.heap.size w w':=by
 have B1:Below w.heap.size w (w.alloc (.cells #[vW,.int .i64 st,vM] 33)):=(Below.refl _ _).alloc (Nat.le_refl _) _
 have B2:=B1.alloc B1.size (.cells #[.int .i64 0,.int .i64 0,.string ⟨#[]⟩,.int .i64 0,.int .i64 0] 70)
 have h':=zh (h.below B2)
 have BO:=zh (Blk.new (w.alloc (.cells #[vW,.int .i64 st,vM] 33)) 70 #[.int .i64 0,.int .i64 0,.string ⟨#[]⟩,.int .i64 0,.int .i64 0])
 have CN:=fun W hW=>zh (cpu_new0 l st s vW W hW hl hs hs0 hs1)
 have sz:(w.alloc (.cells #[vW,.int .i64 st,vM] 33)).heap.size=w.heap.size+1:=by simp
 rw[sz] at BO
 have hgB:w.heap.size+1<((w.alloc (.cells #[vW,.int .i64 st,vM] 33)).alloc (.cells #[.int .i64 0,.int .i64 0,.string ⟨#[]⟩,.int .i64 0,.int .i64 0] 70)).heap.size:=by simp
 have hgB:=zh hgB
 have hB2:=zh B2
 clear B1 B2 sz
 go_enter Tryz.func24,Tryz.ntmps24
 go_wp2_with fail
 generalize hW:(w.alloc (.cells #[vW,.int .i64 st,vM] 33)).alloc (.cells #[.int .i64 0,.int .i64 0,.string ⟨#[]⟩,.int .i64 0,.int .i64 0] 70)=W at *
 clear hW
 refine(CN W h'.out).out.mono ?_
 rintro e w2 ⟨p,mp,rfl,hM,hb⟩
 have BO2:=zh (BO.out.below hb hgB.out)
 have hg2:=zh (Nat.lt_of_lt_of_le hgB.out hb.size)
 have B3:=zh (hB2.out.trans (hb.mono hB2.out.size))
 have RU:=zh (cpu_run0 p mp l st s w2 hM)
 clear hb CN hM
 go_wp2_with fail
 refine RU.out.mono ?_
 rintro e w3 ⟨rfl,hran⟩
 have BO3:=BO2.out.below hran hg2.out
 have b0:=BO3.cell 0
 have b1:=BO3.cell 1
 have b2:=BO3.cell 2
 have b3:=BO3.cell 3
 have b4:=BO3.cell 4
 simp only[gAr,gC0,gCs] at b0 b1 b2 b3 b4
 have g0:=BO3.frozen 0
 have g1:=BO3.frozen 1
 have g2:=BO3.frozen 2
 have g3:=BO3.frozen 3
 have g4:=BO3.frozen 4
 have hz:=BO3.lt
 have B4:=zh (B3.out.trans (hran.mono B3.out.size))
 clear BO3 hran BO2 BO RU
 unfold ocZero
 go_wp2_with fail
 refine bodyPost_ret (by simp only[results,Tryz.results24];go_simp;rfl) rfl ⟨rfl,?_⟩
 exact(((((B4.out.setCell (p:=⟨w.heap.size+1,0,none⟩) (by simp) _).setCell (p:=⟨w.heap.size+1,1,none⟩) (by simp) _).setCell (p:=⟨w.heap.size+1,2,none⟩) (by simp) _).setCell (p:=⟨w.heap.size+1,3,none⟩) (by simp) _).setCell (p:=⟨w.heap.size+1,4,none⟩) (by simp) _)
end Go.Proofs.YtceflhffilldeaaGreat
namespace Go.Proofs.YtceflhffilldeaaGreat
open Go.RowKit Go.Maps Go.WideMaps Plays ObjL Ldr Bw
theorem lwd_row {w:World} {g:Nat} {l:List Int} (h:LWd w g l) (hl:l.length≤65536):Row .u32 w (.slice (some ⟨g,0,none⟩) l.length l.length) l:=
 ⟨by omega,some ⟨g,0,none⟩,l.length,rfl,fun k hk=>⟨⟨g,0,none⟩,rfl,h.lt,by
  have:=h.cell k hk
  simpa [Addr.add_mid] using this⟩⟩
theorem mrow_tab {w:World} {gm cm:Nat} {m:Im} (h:MRow w gm m) (hn:m.n≤16):MTab w (.slice (some ⟨gm,0,none⟩) m.n cm) m.n (fun i=>(m.pl i).descs) (fun i=>(m.pl i).code):=
 ⟨by omega,some ⟨gm,0,none⟩,cm,rfl,fun i hi=>⟨⟨gm,0,none⟩,rfl,h.lt,by
  have h2:=h.range hi 2 (.int .i64 (m.pl i).descs) rfl
  simpa [Addr.add_mid] using h2,by
  have h2:=h.range hi 5 (.int .i64 (m.pl i).code) rfl
  simpa [Addr.add_mid] using h2⟩⟩
structure RunsOk (m:Im) (ws:List Int):Prop where
 ok:m.Ok
 len:ws.length=2048
 four:ws.getD 4 0=4*m.end_
 top:0≤m.end_∧m.end_≤1904
theorem runs_ok {G:Files} {nm:List UInt8} {m:Im} {ws:List Int} (h:ldLoad G nm 2048 128=.ok (m,ws)) (hok:m.Ok):RunsOk m ws:=by
 obtain⟨h1,h2,h3⟩:=ldLoad_inv h
 obtain⟨i1,i2,i3,i4,i5⟩:=Ldr.image_ok hok (by decide) (by decide) h2
 have:=(Im.at_bd hok m.n (Nat.le_refl _)).1
 exact⟨hok,i2,i3,by unfold Im.end_ at i1 ⊢;omega,by omega⟩
def insB (m:Im) (ws:List Int) (at_:Int):Bool:=insAny ws m.n (fun i=>(m.pl i).descs) (fun i=>(m.pl i).code) at_ m.n || insHead m.n (fun i=>(m.pl i).descs) at_
theorem ins_end {m:Im} {ws:List Int} (h:RunsOk m ws) {i:Nat} (hi:i<m.n):insEnd ws m.n (fun i=>(m.pl i).descs) i=m.at_ (i+1):=by
 unfold insEnd
 by_cases h1:i+1<m.n
 ·rw[if_pos h1]
  exact(Im.pl_ok (m:=m) (i+1)).1
 ·have h3:i+1=m.n:=by omega
  rw[if_neg h1,if_pos (by rw[h.len];decide),h.four,h3]
  show 4*m.end_ / 4=m.end_
  omega
theorem ins_code {m:Im} {ws:List Int} (h:RunsOk m ws) {k:Nat} (hk:k<m.n):insB m ws (m.pl k).code=true:=by
 have h1:insAny ws m.n (fun i=>(m.pl i).descs) (fun i=>(m.pl i).code) (m.pl k).code m.n=true:=by
  rw[insAny,List.any_eq_true]
  refine⟨k,List.mem_range.2 hk,?_⟩
  have h2:=Im.entry_in h.ok hk
  rw[insHit,ins_end h hk]
  simp
  omega
 rw[insB,h1,Bool.true_or]
theorem ins_start {m:Im} {ws:List Int} (h:RunsOk m ws):insB m ws 8=true:=by
 have h1:insHead m.n (fun i=>(m.pl i).descs) 8=true:=by
  have h2:=(code_in h.ok (i:=0) (by have:=h.ok.one;omega)).1
  have h3:=h.ok.one
  rw[insHead]
  simp
  omega
 rw[insB,h1,Bool.or_true]
theorem ins_none {m:Im} {ws:List Int} (h:RunsOk m ws) {a:Int} (ha:a=7∨a=2047):insB m ws a=false:=by
 have h1:insAny ws m.n (fun i=>(m.pl i).descs) (fun i=>(m.pl i).code) a m.n=false:=by
  rw[insAny,List.any_eq_false]
  intro i hi
  have hi:=List.mem_range.1 hi
  obtain⟨c1,c2,c3,c4,c5,c6⟩:=code_in h.ok hi
  have c7:m.at_ (i+1)≤m.end_:=c5
  have ht:=h.top
  rw[insHit,ins_end h hi]
  simp
  omega
 have h2:insHead m.n (fun i=>(m.pl i).descs) a=false:=by
  obtain⟨c1,c2,c3,c4,c5,c6⟩:=code_in h.ok (i:=0) (by have:=h.ok.one;omega)
  have ht:=h.top
  rw[insHead]
  simp
  omega
 rw[insB,h1,h2]
 rfl
theorem inside_at {m:Im} {ws:List Int} (h:RunsOk m ws) {gw gm cm:Nat} (at_:Int) {b:Bool} (hb:insB m ws at_=b) (w:World) (h1:LWd w gw ws) (h2:MRow w gm m) :
  Calls Tryz.prog 23 #[.agg #[.slice (some ⟨gw,0,none⟩) ws.length ws.length,.int .i64 8,.slice (some ⟨gm,0,none⟩) m.n cm],.int .i64 at_] w fun e w'=>e=.returned (.bool b)∧Below w.heap.size w w':=by
 have:=run_insideZ ws m.n (fun i=>(m.pl i).descs) (fun i=>(m.pl i).code) 8 at_ (.slice (some ⟨gw,0,none⟩) ws.length ws.length) (.slice (some ⟨gm,0,none⟩) m.n cm) w (lwd_row h1 (by rw[h.len];decide)) (mrow_tab h2 h.ok.few)
  (fun _=>by rw[h.four];have:=h.top;constructor<;>omega) (by have:=h.ok.few;omega)
 rw[show (insAny ws m.n (fun i=>(m.pl i).descs) (fun i=>(m.pl i).code) at_ m.n || insHead m.n (fun i=>(m.pl i).descs) at_)=b from hb] at this
 exact this
theorem inside_none (w:World):Calls Tryz.prog 23 #[.agg #[.slice none 0 0,.int .i64 0,.slice none 0 0],.int .i64 8] w fun e w'=>e=.returned (.bool false)∧Below w.heap.size w w':=
 run_insideZ [] 0 (fun _=>0) (fun _=>0) 0 8 (.slice none 0 0) (.slice none 0 0) w ⟨by simp,none,0,rfl,fun k hk=>absurd hk (by simp)⟩ ⟨by decide,none,0,rfl,fun i hi=>absurd hi (by omega)⟩ (fun h=>absurd h (by simp)) (by decide)
theorem law27_objects (l:List (BA×BA)) (vs:Value) (nm:List UInt8) (w:World) (hv:FRow w vs l) (hsz:∀ x∈l,x.1.size≤9223372036854775807∧x.2.size≤9223372036854775807) :
  Calls Tryz.prog 7 #[vs,.string (txt nm)] w fun e w'=>e=.returned (.bool true)∧Below w.heap.size w w':=by
 have WK:∀ W',Hid (Calls Tryz.prog 22 #[] W' fun e w'=>e=.returned (.bool true)∧Below W'.heap.size W' w'):=fun W'=>zh (law27_wakes W')
 have ST:=zh (law26_stores l vs _ hv hsz)
 have hns:=txt_size nm
 clear hv hsz
 go_enter Tryz.func7,Tryz.ntmps7
 go_wp2_with fail
 refine ST.out.mono ?_
 rintro e w2 ⟨p,q,kk,ok,rfl,hS2,hb2,-,-⟩
 have hB2:=zh hb2
 have hG:=zh (show ∃ N T,GetOk (storeG N T) w2.heap.size p w2 by
  obtain⟨m,n,v,u,h1,-⟩:=hS2
  exact⟨_,_,getOk_of h1 (st_rel _ _).1 (st_rel _ _).2⟩)
 clear ST hS2 hb2
 cases ok
 case false=>
  go_wp2_with fail
  refine(WK _).out.mono ?_
  rintro e w9 ⟨rfl,hb⟩
  have BB9:=zh (hB2.out.trans (hb.mono hB2.out.size))
  clear hb
  go_wp2_with fail
  go_ret
  exact⟨rfl,BB9.out⟩
 by_cases hlong:(1000:Int)<nm.length
 ·go_wp2_with fail
  refine(WK _).out.mono ?_
  rintro e w9 ⟨rfl,hb⟩
  have BB9:=zh (hB2.out.trans (hb.mono hB2.out.size))
  clear hb
  go_wp2_with fail
  go_ret
  exact⟨rfl,BB9.out⟩
 obtain⟨N,T,hGo⟩:=hG.out
 have LO:=zh (load_ok _ p w2 hGo nm (by omega) 2048 128)
 cases hld:ldLoad (storeG N T) nm 2048 128 with
 | error c=>
  have hcn:=ldLoad_ne hld
  rw[hld] at LO
  have hcb:(c==0)=false:=by rw[beq_eq_false_iff_ne];exact hcn
  have hcb2:(c != 0)=true:=by rw[bne_iff_ne];exact hcn
  clear hld hcn hG hGo
  go_wp2_with fail
  refine LO.out.mono ?_
  rintro e w3 ⟨rfl,hb3⟩
  have hI:=zh (Blk.new w3 imT #[.slice none 0 0,.int .i64 0,.slice none 0 0])
  have hB4:=zh ((hB2.out.trans (hb3.mono hB2.out.size)).alloc (Nat.le_trans hB2.out.size hb3.size) (.cells #[.slice none 0 0,.int .i64 0,.slice none 0 0] imT))
  clear hb3 LO hB2
  go_upto_region 6 with fail
  generalize w3.alloc _=w4 at *
  generalize w3.heap.size=g4 at *
  have c0:w4.cell? ⟨g4,0,none⟩=some (.slice none 0 0):=hI.out.cell 0
  have c1:w4.cell? ⟨g4,1,none⟩=some (.int .i64 0):=hI.out.cell 1
  have c2:w4.cell? ⟨g4,2,none⟩=some (.slice none 0 0):=hI.out.cell 2
  go_wp2_with fail
  refine(inside_none w4).mono ?_
  rintro e w5 ⟨rfl,hb5⟩
  have hB5:=zh (hB4.out.trans (hb5.mono hB4.out.size))
  clear hb5 c0 c1 c2
  go_wp2_with fail
  refine(WK _).out.mono ?_
  rintro e w9 ⟨rfl,hb⟩
  have BB9:=zh (hB5.out.trans (hb.mono hB5.out.size))
  clear hb
  go_wp2_with fail
  go_ret
  exact⟨rfl,BB9.out⟩
 | ok r=>
  obtain⟨m,ws⟩:=r
  rw[hld] at LO
  go_wp2_with fail
  refine LO.out.mono ?_
  rintro e w3 ⟨⟨gw,gm,cm,rfl,hw3,hM3,hok⟩,hb3⟩
  have hR:=zh (runs_ok hld hok)
  have hlen:ws.length=2048:=hR.out.len
  have hnf:=hok.few
  have hb4:=hb3.alloc hb3.size (.cells #[.slice (some ⟨gw,0,none⟩) ws.length ws.length,.int .i64 8,.slice (some ⟨gm,0,none⟩) m.n cm] imT)
  have hB4:=zh (hB2.out.trans (hb4.mono hB2.out.size))
  have hI4:=zh (Blk.new w3 imT #[.slice (some ⟨gw,0,none⟩) ws.length ws.length,.int .i64 8,.slice (some ⟨gm,0,none⟩) m.n cm])
  have hM4:=zh (hM3.below ((Below.refl w3.heap.size w3).alloc (Nat.le_refl _) (.cells #[.slice (some ⟨gw,0,none⟩) ws.length ws.length,.int .i64 8,.slice (some ⟨gm,0,none⟩) m.n cm] imT)))
  have hw4:=zh (hw3.alloc (.cells #[.slice (some ⟨gw,0,none⟩) ws.length ws.length,.int .i64 8,.slice (some ⟨gm,0,none⟩) m.n cm] imT))
  have hlh:=zh hlen
  clear hb3 hb4 hw3 hM3 hB2 hG hGo hld hok hlen
  unfold imCells
  go_upto_region 7 with fail
  clear LO
  generalize w3.alloc _=w4 at *
  generalize w3.heap.size=g8 at *
  have c0:w4.cell? ⟨g8,0,none⟩=some (.slice (some ⟨gw,0,none⟩) ws.length ws.length):=hI4.out.cell 0
  have c1:w4.cell? ⟨g8,1,none⟩=some (.int .i64 8):=hI4.out.cell 1
  have c2:w4.cell? ⟨g8,2,none⟩=some (.slice (some ⟨gm,0,none⟩) m.n cm):=hI4.out.cell 2
  have RZ:=zh (run_zero ws 8 ⟨#[]⟩ (.slice (some ⟨gw,0,none⟩) ws.length ws.length) (.slice (some ⟨gm,0,none⟩) m.n cm) w4 (lwd_row hw4.out (by rw[hlh.out];decide)) (by rw[hlh.out];decide) (by decide) (by decide) (by rw[hlh.out];decide))
  go_wp2_with fail
  refine RZ.out.mono ?_
  rintro e w5 ⟨rfl,hb5⟩
  unfold ocZero
  have hb6:=hb5.alloc hb5.size (.cells #[.int .i64 3,.int .i64 0,.string ⟨#[]⟩,.int .i64 0,.int .i64 0] 70)
  have hB6:=zh (hB4.out.trans (hb6.mono hB4.out.size))
  have hI6:=zh (hI4.out.below hb6 hI4.out.lt)
  have hM6:=zh (hM4.out.below hb6)
  have hw6:=zh (hw4.out.below hb6)
  have hO6:=zh (Blk.new w5 70 #[.int .i64 3,.int .i64 0,.string ⟨#[]⟩,.int .i64 0,.int .i64 0])
  clear hb5 hb6 RZ c0 c1 c2 hB4 hI4 hM4 hw4
  go_upto_region 8 with fail
  generalize w5.alloc _=w6 at *
  generalize w5.heap.size=g10 at *
  go_wp2_with fail
  go_loopw [12] (fun iv wr=>∃ k:Nat,iv=.int .i64 k∧k≤m.n∧Hid (Below w6.heap.size w6 wr)) (fun iv _=>16-(intOf iv).toNat)
  case atStart=>exact⟨0,rfl,by omega,zh (Below.refl _ _)⟩
  case round=>
   obtain⟨k,rfl,hk,hbw⟩:=hrel
   have c2:wr.cell? ⟨g8,2,none⟩=some (.slice (some ⟨gm,0,none⟩) m.n cm):=(hI6.out.below hbw.out hI6.out.lt).cell 2
   by_cases hlt:(k:Int)<(m.n:Int)
   ·have hkm:k<m.n:=by omega
    have hIr:=zh (hI6.out.below hbw.out hI6.out.lt)
    have hMr:=zh (hM6.out.below hbw.out)
    have hwr:=zh (hw6.out.below hbw.out)
    have IN:∀ u:Cls wr,Hid (Calls Tryz.prog 23 #[.agg #[.slice (some ⟨gw,0,none⟩) ws.length ws.length,.int .i64 8,.slice (some ⟨gm,0,none⟩) m.n cm],.int .i64 (m.pl k).code] u.w fun e w'=>e=.returned (.bool true)∧Below u.w.heap.size u.w w'):=fun u=>zh (inside_at hR.out _ (ins_code hR.out hkm) u.w (hwr.out.below u.h) (hMr.out.below u.h))
    have F0:∀ u:Cls wr,u.w.cell? ⟨g8,0,none⟩=some (.slice (some ⟨gw,0,none⟩) ws.length ws.length):=Cls.cell (hIr.out.cell 0) hIr.out.lt
    have F1:∀ u:Cls wr,u.w.cell? ⟨g8,1,none⟩=some (.int .i64 8):=Cls.cell (hIr.out.cell 1) hIr.out.lt
    have F2:∀ u:Cls wr,u.w.cell? ⟨g8,2,none⟩=some (.slice (some ⟨gm,0,none⟩) m.n cm):=Cls.cell c2 hIr.out.lt
    have FC:∀ u:Cls wr,u.w.cell? ⟨gm,k*6+5,none⟩=some (.int .i64 (m.pl k).code):=Cls.cell (hMr.out.range hkm 5 _ rfl) hMr.out.lt
    generalize (m.pl k).code=co at *
    go_upto_region 11 with fail
    clear c2
    refine wp_region_cls (by kernel_rfl) (by kernel_rfl) ?_
    repeat (go_big_quiet_step ((go_at_call 23;exact cls_call (IN _).out)))
    refine wpQuiet_nil ?_
    intro wq hw0
    have hq:Below wr.heap.size wr wq:=(by obtain⟨u,rfl⟩:=hw0;exact u.h)
    have hbn:=zh (hbw.out.trans (hq.mono hbw.out.size))
    clear hw0 hq F0 F1 F2 FC IN
    go_wp2_with fail
    exact⟨⟨k+1,by go_num,by omega,hbn⟩,by simp[intOf];omega⟩
   ·obtain rfl:k=m.n:=by omega
    have hB:=zh (hB6.out.trans (hbw.out.mono hB6.out.size))
    have hI:=zh (hI6.out.below hbw.out hI6.out.lt)
    have hM:=zh (hM6.out.below hbw.out)
    have hW:=zh (hw6.out.below hbw.out)
    have hO:=zh (hO6.out.below hbw.out hO6.out.lt)
    have o0:wr.cell? ⟨g10,0,none⟩=some (.int .i64 3):=hO.out.cell 0
    have o2:wr.cell? ⟨g10,2,none⟩=some (.string ⟨#[]⟩):=hO.out.cell 2
    have o3:wr.cell? ⟨g10,3,none⟩=some (.int .i64 0):=hO.out.cell 3
    clear hB6 hI6 hM6 hw6 hO6 hbw c2 hO
    have c0:wr.cell? ⟨g8,0,none⟩=some (.slice (some ⟨gw,0,none⟩) ws.length ws.length):=hI.out.cell 0
    have c1:wr.cell? ⟨g8,1,none⟩=some (.int .i64 8):=hI.out.cell 1
    have c2:wr.cell? ⟨g8,2,none⟩=some (.slice (some ⟨gm,0,none⟩) m.n cm):=hI.out.cell 2
    go_wp2_with fail
    refine(inside_at hR.out 8 (ins_start hR.out) wr hW.out hM.out).mono ?_
    rintro e wa ⟨rfl,hb⟩
    have hI_:=zh (hI.out.below hb hI.out.lt)
    have hM_:=zh (hM.out.below hb)
    have hW_:=zh (hW.out.below hb)
    have hB_:=zh (hB.out.trans (hb.mono hB.out.size))
    clear c0 c1 c2 hb hI hM hW hB
    have hI:=hI_
    have hM:=hM_
    have hW:=hW_
    have hB:=hB_
    clear hI_ hM_ hW_ hB_
    have c0:wa.cell? ⟨g8,0,none⟩=some (.slice (some ⟨gw,0,none⟩) ws.length ws.length):=hI.out.cell 0
    have c1:wa.cell? ⟨g8,1,none⟩=some (.int .i64 8):=hI.out.cell 1
    have c2:wa.cell? ⟨g8,2,none⟩=some (.slice (some ⟨gm,0,none⟩) m.n cm):=hI.out.cell 2
    clear o0 o2 o3
    go_wp2_with fail
    refine(inside_at hR.out 7 (ins_none hR.out (Or.inl rfl)) wa hW.out hM.out).mono ?_
    rintro e wb ⟨rfl,hb⟩
    have hI_:=zh (hI.out.below hb hI.out.lt)
    have hM_:=zh (hM.out.below hb)
    have hW_:=zh (hW.out.below hb)
    have hB_:=zh (hB.out.trans (hb.mono hB.out.size))
    clear c0 c1 c2 hb hI hM hW hB
    have hI:=hI_
    have hM:=hM_
    have hW:=hW_
    have hB:=hB_
    clear hI_ hM_ hW_ hB_
    have c0:wb.cell? ⟨g8,0,none⟩=some (.slice (some ⟨gw,0,none⟩) ws.length ws.length):=hI.out.cell 0
    have c1:wb.cell? ⟨g8,1,none⟩=some (.int .i64 8):=hI.out.cell 1
    have c2:wb.cell? ⟨g8,2,none⟩=some (.slice (some ⟨gm,0,none⟩) m.n cm):=hI.out.cell 2
    go_wp2_with fail
    refine(inside_at hR.out 2047 (ins_none hR.out (Or.inr rfl)) wb hW.out hM.out).mono ?_
    rintro e wc ⟨rfl,hb⟩
    have hI_:=zh (hI.out.below hb hI.out.lt)
    have hM_:=zh (hM.out.below hb)
    have hW_:=zh (hW.out.below hb)
    have hB_:=zh (hB.out.trans (hb.mono hB.out.size))
    clear c0 c1 c2 hb hI hM hW hB
    have hI:=hI_
    have hM:=hM_
    have hW:=hW_
    have hB:=hB_
    clear hI_ hM_ hW_ hB_
    have c0:wc.cell? ⟨g8,0,none⟩=some (.slice (some ⟨gw,0,none⟩) ws.length ws.length):=hI.out.cell 0
    have c1:wc.cell? ⟨g8,1,none⟩=some (.int .i64 8):=hI.out.cell 1
    have c2:wc.cell? ⟨g8,2,none⟩=some (.slice (some ⟨gm,0,none⟩) m.n cm):=hI.out.cell 2
    go_wp2_with fail
    refine(WK _).out.mono ?_
    rintro e w9 ⟨rfl,hb⟩
    have BB9:=zh (hB.out.trans (hb.mono hB.out.size))
    clear hb
    go_wp2_with fail
    go_ret
    exact⟨rfl,BB9.out⟩
theorem law27_objects_text (l:List (BA×BA)) (vs:Value) (s:BA) (w:World) (hv:FRow w vs l) (hsz:∀ x∈l,x.1.size≤9223372036854775807∧x.2.size≤9223372036854775807) :
  Calls Tryz.prog 7 #[vs,.string s] w fun e w'=>e=.returned (.bool true)∧Below w.heap.size w w':=by
 have:=law27_objects l vs s.data.toList w hv hsz
 rw[txt_of] at this
 exact this
end Go.Proofs.YtceflhffilldeaaGreat
