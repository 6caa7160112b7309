/-
  Joined: ZStep.
-/
import Derived.Test.YtceflhffilldeaaGreatZMoves
import Derived.Deep.RegionWith
import Derived.Test.YtceflhffilldeaaGreatZRiscDec
import Derived.Laws.BytesArg
set_option linter.unusedVariables false
set_option linter.unusedSimpArgs false
set_option maxRecDepth 100000
set_option maxHeartbeats 16000000
namespace Go.Proofs.YtceflhffilldeaaGreat
open Go.RowKit Bw
theorem cpu_reckons_up (S:Nat→Prop) (v:Bool) (A B:Nat) (im:Int) (p mp ap:Nat) (ov:Value) (m:Mc) (w:World) (h:Mach w p mp ap ov m) (hA:A<16) (hi0:0≤im) (hi1:im<65536) (hF:Free S p ap ov) (hS:∀ k,S k→k<w.heap.size) :
  Calls Tryz.prog 100 #[.pointer (some ⟨p,0,none⟩),.agg #[.int .i64 1,.bool true,.bool v,.int .i64 A,.int .i64 B,.int .i64 0,.int .i64 0,.int .i64 im]] w fun e w'=>
   e=.returned (.tuple #[])∧Stored S p mp ap (m.sets A (im*65536 % 4294967296)) w w':=by
 have x8:=xcells w 1 im true v A B 0 0 128
 simp only at x8
 obtain⟨x0,x1,x2,x3,x4,x5,x6,x7⟩:=x8
 have h1:=zh (h.alloc (.cells #[.int .i64 1,.bool true,.bool v,.int .i64 A,.int .i64 B,.int .i64 0,.int .i64 0,.int .i64 im] 128))
 have K1:Kept S w (w.alloc (.cells #[.int .i64 1,.bool true,.bool v,.int .i64 A,.int .i64 B,.int .i64 0,.int .i64 0,.int .i64 im] 128)):=(Kept.refl S w).alloc hS _
 have K1:=zh K1
 have hF:=zh hF
 have hS:=zh hS
 have r0:=h1.out.reg 0 (by omega)
 obtain⟨c0,c0E⟩:∃ c0,m.r.getD 0 0=c0:=⟨_,rfl⟩
 rw[c0E] at r0
 have w16:IntKind.u16.wrap im=im:=by simp[IntKind.wrap,IntKind.bits,IntKind.signed];omega
 have w32:IntKind.u32.wrap im=im:=by rw[IntKind.wrap_u32];omega
 have wsh:IntKind.u32.wrap (im*65536)=im*65536 % 4294967296:=IntKind.wrap_u32 _
 have hv:Mc.W32 (im*65536 % 4294967296):=by unfold Mc.W32;omega
 generalize im*65536 % 4294967296=sv at *
 have hv:=zh hv
 clear c0E h
 go_enter Tryz.func100,Tryz.ntmps100
 go_wp2_with fail
 generalize hW:w.alloc (.cells #[.int .i64 1,.bool true,.bool v,.int .i64 A,.int .i64 B,.int .i64 0,.int .i64 0,.int .i64 im] 128)=W at *
 clear hW
 (refine region_drew 7 (by kernel_rfl) (by kernel_rfl) ?_;simp only[List.take_succ_cons,List.take_zero,List.drop_succ_cons,List.drop_zero];(repeat still_step))
 refine wpStill_nil ?_
 cases v
 ·go_wp2_with fail
  refine(cpu_sets A _ p mp ap ov m _ h1.out.drew hA hv.out).mono ?_
  rintro e w2 ⟨rfl,hm2,hk2⟩
  go_wp2_with fail
  refine bodyPost_ret (results_none rfl _ _ _) rfl ?_
  exact⟨rfl,Stored.sets hm2 hk2 K1.out.drew hF.out hS.out⟩
 ·go_wp2_with fail
  refine(cpu_sets A _ p mp ap ov m _ h1.out.drew hA hv.out).mono ?_
  rintro e w2 ⟨rfl,hm2,hk2⟩
  go_wp2_with fail
  refine bodyPost_ret (results_none rfl _ _ _) rfl ?_
  exact⟨rfl,Stored.sets hm2 hk2 K1.out.drew hF.out hS.out⟩
theorem cpu_reckons_flags (S:Nat→Prop) (A B C:Nat) (p mp ap:Nat) (ov:Value) (m:Mc) (w:World) (h:Mach w p mp ap ov m) (hA:A<16) (hC:C<16) (hF:Free S p ap ov) (hS:∀ k,S k→k<w.heap.size) :
  Calls Tryz.prog 100 #[.pointer (some ⟨p,0,none⟩),.agg #[.int .i64 0,.bool true,.bool true,.int .i64 A,.int .i64 B,.int .i64 C,.int .i64 0,.int .i64 0]] w fun e w'=>
   e=.returned (.tuple #[])∧Stored S p mp ap (m.sets A (Mc.packed m.f)) w w':=by
 have x8:=xcells w 0 0 true true A B C 0 128
 simp only at x8
 obtain⟨x0,x1,x2,x3,x4,x5,x6,x7⟩:=x8
 have h1:=zh (h.alloc (.cells #[.int .i64 0,.bool true,.bool true,.int .i64 A,.int .i64 B,.int .i64 C,.int .i64 0,.int .i64 0] 128))
 have K1:Kept S w (w.alloc (.cells #[.int .i64 0,.bool true,.bool true,.int .i64 A,.int .i64 B,.int .i64 C,.int .i64 0,.int .i64 0] 128)):=(Kept.refl S w).alloc hS _
 have K1:=zh K1
 have hF:=zh hF
 have hS:=zh hS
 have r0:=h1.out.reg C hC
 have hC':(C:Int)<16:=by omega
 obtain⟨c0,c0E⟩:∃ c0,m.r.getD C 0=c0:=⟨_,rfl⟩
 rw[c0E] at r0
 have c17:=h1.out.fn
 have c18:=h1.out.fz
 have c19:=h1.out.fc
 have c20:=h1.out.fv
 have hp:=h.blk.lt
 have z1:w.heap.size<(w.alloc (.cells #[.int .i64 0,.bool true,.bool true,.int .i64 A,.int .i64 B,.int .i64 C,.int .i64 0,.int .i64 0] 128)).heap.size:=by simp
 have PK:=fun W=>cpu_packed m.f W
 simp only[Fl.val,Fl.cells] at PK
 have PK':=fun W=>zh (PK W)
 clear c0E h PK
 go_enter Tryz.func100,Tryz.ntmps100
 go_wp2_with fail
 generalize hW:w.alloc (.cells #[.int .i64 0,.bool true,.bool true,.int .i64 A,.int .i64 B,.int .i64 C,.int .i64 0,.int .i64 0] 128)=W at *
 clear hW
 (refine region_drew 7 (by kernel_rfl) (by kernel_rfl) ?_;simp only[List.take_succ_cons,List.take_zero,List.drop_succ_cons,List.drop_zero];(repeat still_step))
 refine wpStill_nil ?_
 go_wp2_with fail
 have hne:w.heap.size≠p:=fun e=>Nat.lt_irrefl _ (e ▸ hp)
 go_region_with (first | (go_at_call 131;refine(PK' _).out.mono ?_;rintro e w3 ⟨rfl,hb3⟩;have x3':=(hb3.cell (p:=⟨w.heap.size,3,none⟩) z1).trans x3) | (go_at_call 129;refine(cpu_sets A _ p mp ap ov m _ (h1.out.drew.drew.below hb3) hA (Mc.packed_bd m.f)).mono ?_;rintro e w4 ⟨rfl,hm4,hk4⟩))
 all_goals (
  go_wp2_with fail
  refine bodyPost_ret (results_none rfl _ _ _) rfl ?_
  exact⟨rfl,Stored.sets hm4 hk4 (K1.out.drew.drew.below hb3 (fun k hk=>Nat.lt_of_lt_of_le (hS.out k hk) K1.out.size)) hF.out hS.out⟩)
end Go.Proofs.YtceflhffilldeaaGreat
namespace Go.Proofs.YtceflhffilldeaaGreat
open Go.RowKit Bw
theorem Stored.alloc {S:Nat→Prop} {p mp ap:Nat} {m':Mc} {w w1:World} (h:Stored S p mp ap m' w w1) (o:Obj):Stored S p mp ap m' w (w1.alloc o):=by
 obtain⟨ov',h1,h2,h3,h4⟩:=h
 exact⟨ov',h1.alloc o,h2.alloc h4 o,h3,fun k hk=>by have:=h4 k hk;simp;omega⟩
theorem cpu_step_end (S:Nat→Prop) (p mp ap:Nat) (ov:Value) (m:Mc) (w:World) (h:Mach w p mp ap ov m) (hF:Free S p ap ov) (hS:∀ k,S k→k<w.heap.size) (hlt:¬ m.pc<m.size) :
  Calls Tryz.prog 63 #[.pointer (some ⟨p,0,none⟩)] w fun e w'=>e=.returned (.tuple #[])∧Stored S p mp ap { m with en:=5 } w w':=by
 have hlt':¬ m.pc<(m.mem.length:Int):=hlt
 have c21:=h.pc_
 have c22:=h.mem_
 have c26:=h.en_
 have f26:=h.froz 26
 have hpc:=h.ok.pc
 have SZ:=fun W hW=>zh (mem_size mp ap m.mem W hW)
 have h:=zh h
 have hF:=zh hF
 have hS:=zh hS
 clear hlt
 go_enter Tryz.func63,Tryz.ntmps63
 go_wp2_with fail
 (refine region_drew 9 (by kernel_rfl) (by kernel_rfl) ?_;simp only[List.take_succ_cons,List.take_zero,List.drop_succ_cons,List.drop_zero];(repeat still_step))
 still_call ((SZ _ h.out.drew.mem).out.mono fun _ _ h=>⟨h.1,h.2.symm⟩)
 refine wpStill_nil ?_
 go_wp2_with fail
 refine bodyPost_ret (results_none rfl _ _ _) rfl ?_
 exact⟨rfl,Stored.en h.out.drew (Kept.refl S w).drew hF.out hS.out 5⟩
theorem cpu_step_op (S:Nat→Prop) (p mp ap:Nat) (ov:Value) (m:Mc) (w:World) (h:Mach w p mp ap ov m) (hF:Free S p ap ov) (hS:∀ k,S k→k<w.heap.size) (hlt:m.pc<m.size) (x:Int) (hx:m.mem.getD m.pc.toNat 0=x) (hd:Ins.derr x≠0) :
  Calls Tryz.prog 63 #[.pointer (some ⟨p,0,none⟩)] w fun e w'=>e=.returned (.tuple #[])∧Stored S p mp ap { m with en:=4 } w w':=by
 have hlt':m.pc<(m.mem.length:Int):=hlt
 have c21:=h.pc_
 have c22:=h.mem_
 have hpc:=h.ok.pc
 have hml:=h.ok.ml
 have hx0:=h.ok.word m.pc.toNat
 rw[hx] at hx0
 have SZ:=fun W hW=>zh (mem_size mp ap m.mem W hW)
 have hok:((m.pc*4) % 4==0 && decide (m.pc.toNat<m.mem.length))=true:=by
  rw[Bool.and_eq_true,beq_iff_eq,decide_eq_true_eq];omega
 have LD:=fun W hW=>mem_load mp ap m.pc.toNat (m.pc*4) m.mem W hW (by omega) (by omega) (by omega) hml true hok
 simp only[if_true,hx] at LD
 have LD':=fun W hW=>zh (LD W hW)
 have DE:=fun W=>risc_decode x W hx0.1 hx0.2
 rw[(Ins.dec_none x hd).1,(Ins.dec_none x hd).2] at DE
 simp only[Ins.val,Ins.cells,Ins.zero] at DE
 have DE':=fun W=>zh (DE W)
 have h:=zh h
 have hF:=zh hF
 have hS:=zh hS
 have hw1:IntKind.u32.wrap m.pc=m.pc:=by rw[IntKind.wrap_u32];omega
 have hw2:IntKind.u32.wrap (m.pc*4)=m.pc*4:=by rw[IntKind.wrap_u32];omega
 clear hlt hok hx hx0 hd LD DE
 go_enter Tryz.func63,Tryz.ntmps63
 go_wp2_with fail
 (refine region_drew 9 (by kernel_rfl) (by kernel_rfl) ?_;simp only[List.take_succ_cons,List.take_zero,List.drop_succ_cons,List.drop_zero];(repeat still_step))
 still_call ((SZ _ h.out.drew.mem).out.mono fun _ _ h=>⟨h.1,h.2.symm⟩)
 refine wpStill_nil ?_
 go_wp2_with fail
 (refine region_drew 15 (by kernel_rfl) (by kernel_rfl) ?_;simp only[List.take_succ_cons,List.take_zero,List.drop_succ_cons,List.drop_zero];(repeat still_step))
 still_call ((LD' _ h.out.drew.drew.mem).out.mono fun _ _ h=>⟨h.1,h.2.symm⟩)
 repeat still_step
 refine wpStill_nil ?_
 go_wp2_with fail
 refine(DE' _).out.mono ?_
 rintro e w3 ⟨rfl,hb3⟩
 have h3:=zh (h.out.drew.drew.below hb3)
 have K3:Kept S w w3:=((Kept.refl S w).drew.drew).below hb3 hS.out
 have K3:=zh K3
 have c26:=h3.out.en_
 have f26:=h3.out.froz 26
 have hp:=h3.out.blk.lt
 clear hb3
 go_wp2_with fail
 refine bodyPost_ret (results_none rfl _ _ _) rfl ?_
 exact⟨rfl,(Stored.en h3.out K3.out hF.out (fun k hk=>Nat.lt_of_lt_of_le (hS.out k hk) K3.out.size) 4).alloc _⟩
theorem cpu_step_does (hR:Reckons) (S:Nat→Prop) (p mp ap:Nat) (ov:Value) (m:Mc) (w:World) (h:Mach w p mp ap ov m) (hF:Free S p ap ov) (hS:∀ k,S k→k<w.heap.size) (hlt:m.pc<m.size) (x:Int) (hx:m.mem.getD m.pc.toNat 0=x) (hd:Ins.derr x=0) :
  Calls Tryz.prog 63 #[.pointer (some ⟨p,0,none⟩)] w fun e w'=>e=.returned (.tuple #[])∧Stored S p mp ap (({ m with pc:=m.pc+1 }:Mc).does (Ins.dec x)) w w':=by
 have hlt':m.pc<(m.mem.length:Int):=hlt
 have c21:=h.pc_
 have c22:=h.mem_
 have hpc:=h.ok.pc
 have hml:=h.ok.ml
 have hx0:=h.ok.word m.pc.toNat
 rw[hx] at hx0
 have SZ:=fun W hW=>zh (mem_size mp ap m.mem W hW)
 have hok:((m.pc*4) % 4==0 && decide (m.pc.toNat<m.mem.length))=true:=by
  rw[Bool.and_eq_true,beq_iff_eq,decide_eq_true_eq];omega
 have LD:=fun W hW=>mem_load mp ap m.pc.toNat (m.pc*4) m.mem W hW (by omega) (by omega) (by omega) hml true hok
 simp only[if_true,hx] at LD
 have LD':=fun W hW=>zh (LD W hW)
 have DE:=fun W=>risc_decode x W hx0.1 hx0.2
 have hg:=(Ins.dec_good x hd).1
 rw[hd] at DE
 generalize Ins.dec x=X at *
 obtain⟨form,u,v,a,b,c,op,im⟩:=X
 have hfr:=Ins.good_range _ hg
 simp only at hfr
 have MV:=fun (hf:form=2) W hm hF hS=>cpu_moves S ⟨form,u,v,a,b,c,op,im⟩ hg hf p mp ap ov { m with pc:=m.pc+1 } W hm hF hS
 have JP:=fun (hf:form=3) W hm hF hS=>cpu_jumpsX S ⟨form,u,v,a,b,c,op,im⟩ hg hf p mp ap ov { m with pc:=m.pc+1 } W hm hF hS
 have RC:=fun (hf:form=0∨form=1) W hm hF hS=>hR S ⟨form,u,v,a,b,c,op,im⟩ hg hf p mp ap ov { m with pc:=m.pc+1 } W hm hF hS
 simp only[Ins.val,Ins.cells] at DE MV JP RC
 have DE':=fun W=>zh (DE W)
 have MV':=zh MV
 have JP':=zh JP
 have RC':=zh RC
 have h:=zh h
 have hF:=zh hF
 have hS:=zh hS
 have hw1:IntKind.u32.wrap m.pc=m.pc:=by rw[IntKind.wrap_u32];omega
 have hw2:IntKind.u32.wrap (m.pc*4)=m.pc*4:=by rw[IntKind.wrap_u32];omega
 clear hlt hok hx hx0 hd LD DE MV JP RC hR hg
 go_enter Tryz.func63,Tryz.ntmps63
 go_wp2_with fail
 (refine region_drew 9 (by kernel_rfl) (by kernel_rfl) ?_;simp only[List.take_succ_cons,List.take_zero,List.drop_succ_cons,List.drop_zero];(repeat still_step))
 still_call ((SZ _ h.out.drew.mem).out.mono fun _ _ h=>⟨h.1,h.2.symm⟩)
 refine wpStill_nil ?_
 go_wp2_with fail
 (refine region_drew 15 (by kernel_rfl) (by kernel_rfl) ?_;simp only[List.take_succ_cons,List.take_zero,List.drop_succ_cons,List.drop_zero];(repeat still_step))
 still_call ((LD' _ h.out.drew.drew.mem).out.mono fun _ _ h=>⟨h.1,h.2.symm⟩)
 repeat still_step
 refine wpStill_nil ?_
 go_wp2_with fail
 refine(DE' _).out.mono ?_
 rintro e w3 ⟨rfl,hb3⟩
 have h3:=zh (h.out.drew.drew.below hb3)
 have K3:Kept S w w3:=((Kept.refl S w).drew.drew).below hb3 hS.out
 have K3:=zh K3
 have c21:=h3.out.pc_
 have f21:=h3.out.froz 21
 have hp:=h3.out.blk.lt
 clear hb3
 have hM:=fun o=>zh ((h3.out.set_pc (m.pc+1) (by omega)).alloc o)
 have hK:=fun o=>zh ((K3.out.then_ hF.out.1 21 (.int .i64 (m.pc+1))).alloc (fun k hk=>Nat.lt_of_lt_of_le (hS.out k hk) (K3.out.then_ hF.out.1 21 (.int .i64 (m.pc+1))).size) o)
 by_cases hf2:form=2
 ·subst hf2
  have e1:({ m with pc:=m.pc+1 }:Mc).does ⟨2,u,v,a,b,c,op,im⟩=({ m with pc:=m.pc+1 }:Mc).moves ⟨2,u,v,a,b,c,op,im⟩:=rfl
  have e1':=zh e1
  clear e1
  go_wp2_with fail
  refine(MV'.out (by trivial) _ (hM _).out hF.out (fun k hk=>Nat.lt_of_lt_of_le (hS.out k hk) (hK _).out.size)).mono ?_
  rintro e w5 ⟨rfl,hst⟩
  go_wp2_with fail
  go_end0
  exact⟨rfl,e1'.out ▸ hst.from_ (hK _).out⟩
 by_cases hf3:form=3
 ·subst hf3
  have e1:({ m with pc:=m.pc+1 }:Mc).does ⟨3,u,v,a,b,c,op,im⟩=({ m with pc:=m.pc+1 }:Mc).jumps ⟨3,u,v,a,b,c,op,im⟩:=rfl
  have e1':=zh e1
  clear e1
  go_wp2_with fail
  refine(JP'.out (by trivial) _ (hM _).out hF.out (fun k hk=>Nat.lt_of_lt_of_le (hS.out k hk) (hK _).out.size)).mono ?_
  rintro e w5 ⟨rfl,hst⟩
  go_wp2_with fail
  go_end0
  exact⟨rfl,e1'.out ▸ hst.from_ (hK _).out⟩
 have hf01:form=0∨form=1:=by omega
 have e1:({ m with pc:=m.pc+1 }:Mc).does ⟨form,u,v,a,b,c,op,im⟩=({ m with pc:=m.pc+1 }:Mc).reckons ⟨form,u,v,a,b,c,op,im⟩:=by
  unfold Mc.does;rw[if_neg hf2,if_neg hf3]
 have e1':=zh e1
 clear e1
 have hf01:=zh hf01
 have hf2':(form==2)=false:=by rw[beq_eq_false_iff_ne];exact hf2
 have hf3':(form==3)=false:=by rw[beq_eq_false_iff_ne];exact hf3
 go_wp2_with fail
 refine(RC'.out hf01.out _ (hM _).out hF.out (fun k hk=>Nat.lt_of_lt_of_le (hS.out k hk) (hK _).out.size)).mono ?_
 rintro e w5 ⟨rfl,hst⟩
 go_wp2_with fail
 go_end0
 exact⟨rfl,e1'.out ▸ hst.from_ (hK _).out⟩
theorem cpu_step_of (hR:Reckons) (S:Nat→Prop) (p mp ap:Nat) (ov:Value) (m:Mc) (w:World) (h:Mach w p mp ap ov m) (hF:Free S p ap ov) (hS:∀ k,S k→k<w.heap.size) :
  Calls Tryz.prog 63 #[.pointer (some ⟨p,0,none⟩)] w fun e w'=>e=.returned (.tuple #[])∧Stored S p mp ap m.step w w':=by
 unfold Mc.step
 by_cases hlt:m.pc<m.size
 ·rw[if_pos hlt]
  simp only
  by_cases hd:Ins.derr (m.mem.getD m.pc.toNat 0)=0
  ·rw[if_pos hd]
   exact cpu_step_does hR S p mp ap ov m w h hF hS hlt _ rfl hd
  ·rw[if_neg hd]
   exact cpu_step_op S p mp ap ov m w h hF hS hlt _ rfl hd
 ·rw[if_neg hlt]
  exact cpu_step_end S p mp ap ov m w h hF hS hlt
end Go.Proofs.YtceflhffilldeaaGreat
namespace Go.Proofs.YtceflhffilldeaaGreat
open Go.RowKit Bw
theorem run_stop (m:Mc) (k n:Nat) (hk:k≤n) (h:(m.run k).en≠0):m.run n=m.run k∧m.steps n=m.steps k:=by
 obtain⟨d,rfl⟩:=Nat.le.dest hk
 obtain⟨e1,e2⟩:=Mc.run_add m k d
 obtain⟨f1,f2⟩:=Mc.run_ended (m.run k) d h
 exact⟨by rw[e1,f1],by rw[e2,f2];omega⟩
theorem run_convert_out {w:World} {ov:Value} {l:List Int} {n:Nat} (h:w.ownsRow 0 5 1 ov n (l.map (Value.int .u8))):(convert 86 9 ov).run Tryz.prog w=.ok (.string (strOfNums l)) w:=by
 have hl:l.length=n:=by have:=h.1;simpa using this
 rcases h.2 with ⟨rfl,h0⟩ | ⟨g,cap,cur,rfl,hb,hh,hn,hc,hs,ht⟩
 ·have:l=[]:=List.eq_nil_of_length_eq_zero (by omega)
  subst this
  exact run_convert_bytes_nil w _ _ Tryz.underlying86 Tryz.underlying5 _ _ _ Tryz.underlying9
 ·refine run_convert_bytes_arg w _ _ Tryz.underlying86 Tryz.underlying5 g 0 n cap l hl (fun i hi=>?_) _ Tryz.underlying9
  have:=h.cells (g:=g) rfl i (.int .u8 (l.getD i 0)) (by
   rw[List.getElem?_map,List.getElem?_eq_getElem (by omega)]
   simp[List.getD,show i<l.length by omega])
  rwa [show (⟨g,0,none⟩:Addr).add i=⟨g,0+i,none⟩ by unfold Addr.add;split<;>simp_all] at this
structure RunEnd (p:Nat) (M:Mc) (ov:Value) (w:World):Prop where
 c26:w.cell? ⟨p,26,none⟩=some (.int .i64 M.en)
 c27:w.cell? ⟨p,27,none⟩=some (.int .i64 M.trap)
 c25:w.cell? ⟨p,25,none⟩=some ov
 c24:w.cell? ⟨p,24,none⟩=some (.int .i64 M.read)
 own:w.ownsRow 0 5 1 ov M.out.length (M.out.map (Value.int .u8))
theorem RunEnd.of {w:World} {p mp ap:Nat} {ov:Value} {m:Mc} (h:Mach w p mp ap ov m):RunEnd p m ov w:=⟨h.en_,h.trap_,h.out_,h.read_,h.out⟩
theorem RunEnd.all {p:Nat} {M:Mc} {ov:Value} {w:World} (h:RunEnd p M ov w):RunEnd p M ov w∧w.cell? ⟨p,26,none⟩=some (.int .i64 M.en)∧w.cell? ⟨p,27,none⟩=some (.int .i64 M.trap)∧w.cell? ⟨p,25,none⟩=some ov∧w.cell? ⟨p,24,none⟩=some (.int .i64 M.read) ∧
  (convert 86 9 ov).run Tryz.prog w=.ok (.string (strOfNums M.out)) w:=⟨h,h.c26,h.c27,h.c25,h.c24,run_convert_out h.own⟩
theorem RunEnd.alloc {p:Nat} {M:Mc} {ov:Value} {w:World} (h:RunEnd p M ov w) (hp:p<w.heap.size) (o:Obj):RunEnd p M ov (w.alloc o):=by
 have K:=(Kept.refl (fun k=>k<w.heap.size) w).alloc (fun k h=>h) o
 exact⟨(K.cell (p:=⟨p,26,none⟩) hp).trans h.c26,(K.cell (p:=⟨p,27,none⟩) hp).trans h.c27,(K.cell (p:=⟨p,25,none⟩) hp).trans h.c25,(K.cell (p:=⟨p,24,none⟩) hp).trans h.c24,h.own.alloc o⟩
def Mc.oc (m:Mc) (st:Nat):Value:=.agg #[.int .i64 (if m.en=0 then 3 else m.en),.int .i64 m.trap,.string (strOfNums m.out),.int .i64 st,.int .i64 m.read]
theorem cpu_run_of (hR:Reckons) (S:Nat→Prop) (n:Nat) (p mp ap:Nat) (ov:Value) (m:Mc) (w:World) (h:Mach w p mp ap ov m) (hn:(n:Int)≤4194304) (hF:Free S p ap ov) (hS:∀ k,S k→k<w.heap.size) :
  Calls Tryz.prog 43 #[.pointer (some ⟨p,0,none⟩),.int .i64 n] w fun e w'=>e=.returned (.tuple #[(m.run n).oc (m.steps n),.int .i64 0])∧Stored S p mp ap (m.run n) w w':=by
 have hp:=h.blk.lt
 have B0:=Blk.new w 70 #[.int .i64 0,.int .i64 0,.string ⟨#[]⟩,.int .i64 0,.int .i64 0]
 have h0:=zh (h.alloc (.cells #[.int .i64 0,.int .i64 0,.string ⟨#[]⟩,.int .i64 0,.int .i64 0] 70))
 have K0:Kept S w (w.alloc (.cells #[.int .i64 0,.int .i64 0,.string ⟨#[]⟩,.int .i64 0,.int .i64 0] 70)):=(Kept.refl S w).alloc hS _
 have z0:w.heap.size<(w.alloc (.cells #[.int .i64 0,.int .i64 0,.string ⟨#[]⟩,.int .i64 0,.int .i64 0] 70)).heap.size:=by simp
 have hlt:=fun b hb=>(h.out.lt b hb).2
 have hap:=h.mem.2.lt
 have hmp:=h.mem.1.lt
 have hS2:∀ k,(S k∨k=w.heap.size)→k<(w.alloc (.cells #[.int .i64 0,.int .i64 0,.string ⟨#[]⟩,.int .i64 0,.int .i64 0] 70)).heap.size:=by
  rintro k (hk | rfl)
  ·exact Nat.lt_of_lt_of_le (hS k hk) K0.size
  ·exact z0
 have hF2:Free (fun k=>S k∨k=w.heap.size) p ap ov:=⟨by rintro (h1 | h1);exact hF.1 h1;omega,by rintro (h1 | h1);exact hF.2.1 h1;omega,fun b hb=>by rintro (h1 | h1);exact hF.2.2 b hb h1;have:=hlt b hb;omega⟩
 have hS2:=zh hS2
 have hF2:=zh hF2
 have hS:=zh hS
 have hF:=zh hF
 have K0:=zh K0
 have B0:=zh B0
 have ST:=fun k ov W hm hF hS=>cpu_step_of hR (fun k=>S k∨k=w.heap.size) p mp ap ov (m.run k) W hm hF hS
 have ST:=zh ST
 clear h hlt hap hR
 go_enter Tryz.func43,Tryz.ntmps43
 go_wp2_with fail
 generalize hW:w.alloc (.cells #[.int .i64 0,.int .i64 0,.string ⟨#[]⟩,.int .i64 0,.int .i64 0] 70)=W at *
 clear hW
 go_loopw [6] (fun i wr=>∃ (k:Nat),i=.int .i64 k∧k≤n∧m.steps k=k∧Hid (Stored (fun k=>S k∨k=w.heap.size) p mp ap (m.run k) W wr)) (fun i _=>n-(intOf i).toNat)
 case atStart=>exact⟨0,rfl,by omega,rfl,zh ⟨ov,h0.out,Kept.refl _ _,hF2.out,hS2.out⟩⟩
 case round=>
  obtain⟨k,rfl,hk,hst,hrel⟩:=hrel
  obtain⟨ov1,h1,K1,F1,S1⟩:=hrel.out
  have c26:=h1.en_
  have h1:=zh h1
  have K1:=zh K1
  have F1:=zh F1
  have S1:=zh S1
  clear hrel
  by_cases hen:(m.run k).en=0
  ·by_cases hlt:k<n
   ·have hlt':(k:Int)<(n:Int):=by omega
    have hkw:IntKind.i64.wrap ((k:Int)+1)=((k+1:Nat):Int):=by rw[IntKind.wrap_i64];omega
    have hnext:m.run (k+1)=(m.run k).step:=by rw[Mc.run_succ,if_pos hen]
    have hsteps:m.steps (k+1)=k+1:=by rw[Mc.steps_succ,if_pos hen,hst]
    go_wp2_with fail
    refine(ST.out k ov1 _ h1.out F1.out S1.out).mono ?_
    rintro e w5 ⟨rfl,hst5⟩
    rw[← hnext] at hst5
    have hst5:=zh (hst5.from_ K1.out)
    go_wp2_with fail
    refine⟨⟨k+1,by rw[Int.natCast_add];rfl,hlt,hsteps,hst5⟩,?_⟩
    simp only[intOf]
    omega
   ·have hkn:k=n:=by omega
    subst hkn
    have hlt':¬ (k:Int)<(k:Int):=by omega
    clear ST
    have rs2':=zh hst
    obtain⟨M,hMe⟩:∃ M,m.run k=M:=⟨_,rfl⟩
    rw[hMe] at h1 hen c26
    have rs1':=zh hMe
    clear hMe
    have RE:RunEnd p M ov1 wr.drew:=RunEnd.of h1.out.drew
    have hpr:p<wr.drew.heap.size:=h1.out.blk.lt
    have BK:Blk wr w.heap.size 70 _:=B0.out.kept K1.out (Or.inr rfl)
    have b0:=BK.cell 0
    have b1:=BK.cell 1
    have b2:=BK.cell 2
    have b3:=BK.cell 3
    have b4:=BK.cell 4
    simp only[gAr,gC0,gCs] at b0 b1 b2 b3 b4
    have g0:=BK.frozen 0
    have g1:=BK.frozen 1
    have g2:=BK.frozen 2
    have g3:=BK.frozen 3
    have g4:=BK.frozen 4
    have hz:=BK.lt
    have BK:=zh BK
    go_wp2_with fail
    go_region_held3 (fun w'=>RunEnd p M ov1 w'∧w'.cell? ⟨p,26,none⟩=some (.int .i64 M.en)∧w'.cell? ⟨p,27,none⟩=some (.int .i64 M.trap)∧w'.cell? ⟨p,25,none⟩=some ov1∧w'.cell? ⟨p,24,none⟩=some (.int .i64 M.read) ∧
      (convert 86 9 ov1).run Tryz.prog w'=.ok (.string (strOfNums M.out)) w')
     (first | exact RE.all | exact(RE.alloc hpr _).all) (fail)
    have c26r:=RE.c26
    clear RE
    go_wp2_with fail
    refine bodyPost_ret (by simp only[results,Tryz.results43];go_simp;rfl) rfl ⟨?_,?_⟩
    ·rw[rs1'.out,rs2'.out,Mc.oc,if_pos hen]
    rw[rs1'.out]
    have nS:¬ S w.heap.size:=fun h=>Nat.lt_irrefl _ (hS.out _ h)
    have KS:Kept S w wr:=K0.out.trans (K1.out.mono fun k h=>Or.inl h)
    have KF:=((((KS.then_ nS 0 (.int .i64 3)).then_ nS 1 (.int .i64 M.trap)).then_ nS 2 (.string (strOfNums M.out))).then_ nS 3 (.int .i64 k)).then_ nS 4 (.int .i64 M.read)
    have KM:=((((Kept.cell_ wr w.heap.size 0 (.int .i64 3)).then_ (fun e=>e rfl) 1 (.int .i64 M.trap)).then_ (fun e=>e rfl) 2 (.string (strOfNums M.out))).then_ (fun e=>e rfl) 3 (.int .i64 k)).then_ (fun e=>e rfl) 4 (.int .i64 M.read)
    have ft:=F1.out
    have MF:=h1.out.kept KM (fun e=>ft.1 (Or.inr e)) (Nat.ne_of_lt hmp) (fun e=>ft.2.1 (Or.inr e)) (fun b hb e=>ft.2.2 b hb (Or.inr e))
    have hk2:=fun k hk=>Nat.lt_of_lt_of_le (hS.out k hk) KF.size
    exact⟨ov1,(MF.alloc _).drew,(KF.alloc hk2 _).drew,⟨fun e=>ft.1 (Or.inl e),fun e=>ft.2.1 (Or.inl e),fun b hb e=>ft.2.2 b hb (Or.inl e)⟩,fun k hk=>Nat.lt_of_lt_of_le (hS.out k hk) ((KF.alloc hk2 _).drew).size⟩
  ·obtain⟨rs1,rs2⟩:=run_stop m k n hk hen
   rw[hst] at rs2
   clear ST
   have rs1':=zh rs1
   have rs2':=zh rs2
   clear rs1 rs2
   generalize m.run k=M at *
   have hen':(M.en==0)=false:=by rw[beq_eq_false_iff_ne];exact hen
   have RE:RunEnd p M ov1 wr.drew:=RunEnd.of h1.out.drew
   have hpr:p<wr.drew.heap.size:=h1.out.blk.lt
   have BK:Blk wr w.heap.size 70 _:=B0.out.kept K1.out (Or.inr rfl)
   have b0:=BK.cell 0
   have b1:=BK.cell 1
   have b2:=BK.cell 2
   have b3:=BK.cell 3
   have b4:=BK.cell 4
   simp only[gAr,gC0,gCs] at b0 b1 b2 b3 b4
   have g0:=BK.frozen 0
   have g1:=BK.frozen 1
   have g2:=BK.frozen 2
   have g3:=BK.frozen 3
   have g4:=BK.frozen 4
   have hz:=BK.lt
   have BK:=zh BK
   go_wp2_with fail
   go_region_held3 (fun w'=>RunEnd p M ov1 w'∧w'.cell? ⟨p,26,none⟩=some (.int .i64 M.en)∧w'.cell? ⟨p,27,none⟩=some (.int .i64 M.trap)∧w'.cell? ⟨p,25,none⟩=some ov1∧w'.cell? ⟨p,24,none⟩=some (.int .i64 M.read) ∧
     (convert 86 9 ov1).run Tryz.prog w'=.ok (.string (strOfNums M.out)) w')
    (first | exact RE.all | exact(RE.alloc hpr _).all) (fail)
   have c26r:=RE.c26
   clear RE
   go_wp2_with fail
   refine bodyPost_ret (by simp only[results,Tryz.results43];go_simp;rfl) rfl ⟨?_,?_⟩
   ·rw[rs1'.out,rs2'.out,Mc.oc,if_neg hen]
   rw[rs1'.out]
   have nS:¬ S w.heap.size:=fun h=>Nat.lt_irrefl _ (hS.out _ h)
   have KS:Kept S w wr:=K0.out.trans (K1.out.mono fun k h=>Or.inl h)
   have KF:=((((KS.then_ nS 0 (.int .i64 M.en)).then_ nS 1 (.int .i64 M.trap)).then_ nS 2 (.string (strOfNums M.out))).then_ nS 3 (.int .i64 k)).then_ nS 4 (.int .i64 M.read)
   have KM:=((((Kept.cell_ wr w.heap.size 0 (.int .i64 M.en)).then_ (fun e=>e rfl) 1 (.int .i64 M.trap)).then_ (fun e=>e rfl) 2 (.string (strOfNums M.out))).then_ (fun e=>e rfl) 3 (.int .i64 k)).then_ (fun e=>e rfl) 4 (.int .i64 M.read)
   have ft:=F1.out
   have MF:=h1.out.kept KM (fun e=>ft.1 (Or.inr e)) (Nat.ne_of_lt hmp) (fun e=>ft.2.1 (Or.inr e)) (fun b hb e=>ft.2.2 b hb (Or.inr e))
   have hk2:=fun k hk=>Nat.lt_of_lt_of_le (hS.out k hk) KF.size
   exact⟨ov1,(MF.alloc _).drew,(KF.alloc hk2 _).drew,⟨fun e=>ft.1 (Or.inl e),fun e=>ft.2.1 (Or.inl e),fun b hb e=>ft.2.2 b hb (Or.inl e)⟩,fun k hk=>Nat.lt_of_lt_of_le (hS.out k hk) ((KF.alloc hk2 _).drew).size⟩
end Go.Proofs.YtceflhffilldeaaGreat
