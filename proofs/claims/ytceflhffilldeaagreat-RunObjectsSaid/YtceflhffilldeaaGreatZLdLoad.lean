/-
  Joined: ZLdLoad.
-/
import Derived.Test.YtceflhffilldeaaGreatZLdL
import Derived.Test.YtceflhffilldeaaGreatZDecP
set_option linter.unusedVariables false
set_option linter.unusedSimpArgs false
set_option maxRecDepth 100000
set_option maxHeartbeats 16000000
namespace Go.Proofs.YtceflhffilldeaaGreat
open Go.RowKit Bw
def InsAt (w:World) (g:Nat) (xs:List Ins):Prop:=g<w.heap.size∧∀ k x,xs[k]?=some x→w.rangeAt g (k*8) x.cells.toList
theorem InsAt.below {w w':World} {g:Nat} {xs:List Ins} (h:InsAt w g xs) {B:Nat} (hb:Below B w w') (hg:g<B):InsAt w' g xs:=
 ⟨Nat.lt_of_lt_of_le h.1 hb.size,fun k x hx j v hv=>(hb.cell (p:=⟨g,k*8+j,none⟩) hg).trans (h.2 k x hx j v hv)⟩
theorem ins_size (x:Ins):(Tryz.prog.info? 128).map (·.size)=some x.cells.size:=by
 have h:(Tryz.prog.info? 128).map (·.size)=some 8:=by kernel_rfl
 rw[h];rfl
theorem ins_size' (x:Ins):(Tryz.prog.info? 128).map (·.size)=some x.cells.toList.length:=ins_size x
theorem ins_one (x:Ins):x.cells.all (·.oneCell')=true:=by simp[Ins.cells,Value.oneCell']
theorem wpList_store_last {P:Program} {ops:Array Oper} {rest:List Oper} {o:Oper} {a:Act} {w:World} {Q:Exit→Act→World→Prop} (hgd:o.guard=none) (ty:TypeId) (x y:Operand) (ho:o.op=.store ty x y)
  (w1:World) (cells old:Array Value) (t:TypeId) (hw:w=w1.alloc (.cells old t)) (hx:a.eval x=.pointer (some ⟨w1.heap.size,0,none⟩)) (hy:a.eval y=.agg cells)
  (hi:(P.info? ty).map (·.size)=some cells.size) (hold:old.size=cells.size) (h1:cells.all (·.oneCell')=true)
  (h:wpList P ops Q rest (a.put o.dst undef) (w1.alloc (.cells cells t))):wpList P ops Q (o::rest) a w:=by
 subst hw
 refine wpList_store_row hgd ty x y ho w1.heap.size cells hx hy t old (heap_alloc_new w1 _) hi hold h1 ?_
 rw[show (w1.alloc (.cells old t)).setRow w1.heap.size cells=w1.alloc (.cells cells t) by
  unfold World.setRow World.alloc
  congr 1
  apply Array.ext_getElem?
  intro i
  rw[Array.getElem?_modify]
  by_cases h:w1.heap.size=i
  ·subst h;simp
  ·rw[if_neg h]
   simp only[Array.getElem?_push]
   rw[if_neg (fun e=>h e.symm),if_neg (fun e=>h e.symm)]]
 exact h
theorem u32_info:(Tryz.prog.info? 37).map (fun i=>(i.zero,i.size,i.bytes))=some (some (.int .u32 0),1,4):=by kernel_rfl
theorem block_add0 (g j:Nat):(⟨g,0,none⟩:Addr).add j=⟨g,j,none⟩:=by rw[Addr.add_mid];simp
theorem news1 (w:World) (t:TypeId) (v:Value):∀ (j:Nat) (u:Value),[v][j]?=some u→(w.alloc (.cells #[v] t)).cell? ((⟨w.heap.size,0,none⟩:Addr).add j)=some u:=by
 intro j u hj
 rw[block_add0,cell_of_row _ _ j _ _ _ (heap_alloc_new w (.cells #[v] t))]
 simpa using hj
theorem own_below {w w':World} {base:Nat} {e:TypeId} {size n:Nat} {v:Value} {xs:List Value} (h:w.ownsRow base e size v n xs) (hb:Below w.heap.size w w'):w'.ownsRow base e size v n xs:=by
 refine⟨h.1,?_⟩
 rcases h.2 with h2 | ⟨g,cap,cur,hv,hg,hh,r⟩
 ·exact Or.inl h2
 ·exact Or.inr ⟨g,cap,cur,hv,hg,(hb.block g (Array.getElem?_eq_some_iff.1 hh).1).trans hh,r⟩
theorem image_words (xs:List Ins) (g c:Nat) (w:World) (hx:InsAt w g xs) (hf:∀ x∈xs,x.fits) (hn:xs.length≤1000) :
  Calls Tryz.prog 67 #[.slice (some ⟨g,0,none⟩) xs.length c] w fun e w'=>∃ u,e=.returned u∧w'.ownsRow w.heap.size 37 1 u xs.length (xs.map fun x=>.int .u32 x.E)∧Below w.heap.size w w':=by
 have hx:=zh hx
 have hf:=zh hf
 have hn':=zh hn
 have hn:(xs.length:Int)≤1000:=by omega
 obtain⟨i0,hi0,hz0,hz1,hz2⟩:=info_parts u32_info
 go_enter Tryz.func67,Tryz.ntmps67
 go_wp2_with fail
 go_loopw [3,10] (fun o i wr=>∃ k:Nat,i=.int .i64 k∧k≤xs.length∧wr.ownsRow w.heap.size 37 1 o k ((xs.take k).map fun x=>.int .u32 x.E)∧Below w.heap.size w wr) (fun _ i _=>xs.length-(intOf i).toNat)
 case atStart=>exact⟨0,rfl,by omega,World.ownsRow_nil _ _ _ _,Below.refl _ _⟩
 case round=>
  obtain⟨k,rfl,hk,hown,hb⟩:=hrel
  have hown:=zh hown
  by_cases hlt:(k:Int)<(xs.length:Int)
  ·have hxk:xs[k]?=some (xs[k]'(by omega)):=List.getElem?_eq_getElem (by omega)
   have hfk:=zh (hf.out _ (List.mem_of_getElem? hxk))
   have hk2:xs.take (k+1)=xs.take k++[xs[k]'(by omega)]:=by rw[List.take_add_one,hxk];rfl
   have hk2:=zh hk2
   have hr:=zh ((hx.out.below hb hx.out.1).2 k _ hxk)
   generalize xs[k]'(by omega)=x at *
   have s1:=zh (ins_size x)
   have s2:=zh (ins_size' x)
   have s3:=zh (ins_one x)
   have EN:=fun W=>zh (risc_encode_any x W hfk.out)
   clear hxk
   go_wp2_with (first | (refine wpList_load_mid rfl 128 (.tmp 12) rfl g (k*8) rfl x.cells.toList _ hr.out Tryz.underlying128 rfl s2.out ?_) | (refine wpList_store_last rfl 128 (.tmp 5) (.tmp 13) rfl wr x.cells _ _ rfl rfl rfl s1.out rfl s3.out ?_) | (refine wpList_load_row rfl 128 (.tmp 5) rfl wr.heap.size rfl _ x.cells _ _ (heap_alloc_new wr _) Tryz.underlying128 rfl s1.out ?_))
   refine(EN _).out.mono ?_
   rintro e w1 ⟨rfl,hb1⟩
   have hown1:Hid (w1.ownsRow w.heap.size 37 1 _ k ((xs.take k).map fun x=>.int .u32 x.E)):=zh (own_below (hown.out.alloc _) hb1)
   have hb2:Below w.heap.size w w1:=(hb.alloc hb.size _).trans (hb1.mono (by simp;exact Nat.le_succ_of_le hb.size))
   clear hown hb1 hb
   go_wp2_with (at_builtin;refine wpList_append_own _ rfl (.tmp 19) (.tmp 21) 30 rfl w.heap.size 37 i0 _ 1 4 Tryz.underlying30 hi0 hz0 hz1 hz2 rfl (by omega) _ k _ rfl (hown1.out.alloc _) ⟨w1.heap.size,0,none⟩ 1 1 [.int .u32 x.E] rfl rfl (news1 w1 _ _) (by simp[Value.oneCell']) (by simp only[maxLen];omega) (by omega) (by simp;exact Nat.le_succ_of_le hb2.size) ?_;intro v2 w2 hown2 hg2 _)
   have hown2:=zh hown2
   have hb3:Below w.heap.size w w2:=(hb2.alloc hb2.size _).grown hg2 (by simp;exact Nat.le_succ_of_le hb2.size) (fun q hq=>(hown1.out.lt q hq).1)
   go_wp2_with fail
   refine⟨⟨k+1,by go_num,by omega,?_,hb3⟩,by simp[intOf];omega⟩
   rw[hk2.out,List.map_append]
   exact hown2.out
  ·go_wp2_with fail
   go_ret
   obtain rfl:k=xs.length:=by omega
   exact⟨_,rfl,by have:=hown.out;rwa [List.take_length] at this,hb⟩
end Go.Proofs.YtceflhffilldeaaGreat
namespace Go.Proofs.YtceflhffilldeaaGreat
open Go.RowKit ObjL Ldr Go.Maps Go.WideMaps
def GetOk (G:Files) (B sp:Nat) (W0:World):Prop:=∀ w,Below B W0 w→∀ nm:List UInt8,nm.length≤1000000 →
 Calls Tryz.prog 18 #[.pointer (some ⟨sp,0,none⟩),.string (txt nm)] w fun e w'=>(∃ t,e=.returned (.tuple #[.string (txt t),.bool (G nm).isSome])∧(G nm=some t∨G nm=none)∧t.length≤131072)∧Below w.heap.size w w'
def LdEnd (c d B lp mb sp:Nat) (w:World) (vO:Value):Except Int (Int×LS)→Ending→World→Prop
 | .error x,e,w'=>e=faultE x∧Below B w w'
 | .ok (k,s'),e,w'=>e=.returned (.int .u32 k)∧Below B w w'∧∃ n' D' vO' xs',LdAt c d B lp mb sp w' n' D' vO' xs' s'∧LdK lp mb vO.ownBlock vO'.ownBlock w w'
theorem sl_same' (a b:ByteArray):(a.toList==b.toList)=true↔a=b:=by
 rw[beq_iff_eq,ByteArray.toList_eq,ByteArray.toList_eq]
 exact⟨fun h=>ByteArray.ext (Array.toList_inj.1 h),fun h=>by rw[h]⟩
theorem row_at {α:Type} {n:Nat} {is:World→α→Nat→Value→Prop} {w:World} {A:Option Addr} {c:Nat} {l:List α} (h:RowOf n is w (.slice A l.length c) l):∀ i (hi:i<l.length),∃ ad,A=some ad∧ad.block<w.heap.size∧∀ j,j<n→∃ x,w.cell? ((ad.add (i*n)).add j)=some x∧is w l[i] j x:=by
 obtain⟨-,A1,c1,e,hc⟩:=h
 injection e with e1 e2 e3
 subst e1
 exact hc
theorem good_names {o:Ob} (h:goodO o=true):∀ u∈o.uses,u.1.length≤100000:=fun u hu=>by
 have:=((good_wr h).use u hu).1
 unfold textOk at this
 simp only[Bool.and_eq_true,decide_eq_true_eq] at this
 omega
theorem ext_txt (nm:List UInt8):txt nm++(⟨#[46,79,98,106]⟩:ByteArray)=txt (nm++dotObj):=by
 apply ByteArray.ext
 simp[txt,dotObj]
theorem flat10:∀ (xs:List OM) (i j:Nat) (hi:i<xs.length),j<10→(xs.flatMap OM.cells)[i*10+j]?=(xs[i].cells)[j]?
 | [],i,j,hi,_=>absurd hi (by simp)
 | x::l,0,j,hi,hj=>by
  rw[List.flatMap_cons,Nat.zero_mul,Nat.zero_add,List.getElem?_append_left (by rw[OM.cells_len];exact hj)]
  rfl
 | x::l,i+1,j,hi,hj=>by
  rw[List.flatMap_cons,List.getElem?_append_right (by rw[OM.cells_len];omega),OM.cells_len]
  have:=flat10 l i j (by simpa using hi) hj
  rw[show (i+1)*10+j-10=i*10+j by omega,this]
  rfl
theorem LdAt.slice {c d B lp mb sp n:Nat} {w:World} {D:DataW Unit} {vO:Value} {xs:List OM} {s:LS} (h:LdAt c d B lp mb sp w n D vO xs s):∃ A k,vO=.slice A xs.length k:=own_slice h.row
theorem ld_done (G:Files) (B sp:Nat) (W0:World) (hG:GetOk G B sp W0) (f c d lp mb n:Nat) (D:DataW Unit) (vO:Value) (xs:List OM) (s:LS) (w:World) (h:LdAt c d B lp mb sp w n D vO xs s) (hB:Below B W0 w) (hBs:B≤w.heap.size) (name:List UInt8) (hn:name.length≤100000) (hp:0<s.pos name) :
  Calls Tryz.prog 46 #[.pointer (some ⟨lp,0,none⟩),.string (txt name)] w (LdEnd c d B lp mb sp w vO (Ldr.load G (f+1) name s)):=by
 rw[load_done hp]
 obtain⟨k,hk⟩:∃ k:Nat,s.pos name=(k:Int)+1:=⟨(s.pos name-1).toNat,by omega⟩
 have hkx:k<xs.length:=by have:=h.ok.at_ name;rw[h.objs,List.length_map,hk] at this;omega
 have hkey:s.key (s.pos name)=xs[k].o.key:=by
  rw[hk]
  unfold LS.key
  rw[h.objs,show ((k:Int)+1-1).toNat=k by omega,List.getElem?_map,List.getElem?_eq_getElem hkx]
  rfl
 rw[hkey]
 have c0:=h.blk.cell 0
 have c1:=h.blk.cell 1
 have c2:=h.blk.cell 2
 have c3:=h.blk.cell 3
 have f2:=h.blk.frozen 2
 simp only[gAr,gC0,gCs] at c0 c1 c2 c3
 have hlk:=h.map.look (t:=name) (by omega)
 rw[h.pos] at hlk
 have hh:=zh h
 rw[hk] at hlk
 have hgt:(0:Int)<(k:Int)+1:=by omega
 have hw1:IntKind.i64.wrap ((k:Int)+1-1)=k:=by rw[IntKind.wrap_i64];have:=h.ok.high;have:=h.ok.few;have:=h.ok.at_ name;omega
 have hw2:(k:Int)+1-1=k:=by omega
 have hkl:(k:Int)<(xs.length:Int):=by omega
 obtain⟨A,kk,rfl⟩:=h.slice
 have hrow:=h.row
 obtain⟨g,rfl⟩:∃ g,A=some ⟨g,0,none⟩:=by
  rcases hrow.2 with ⟨h1,h2⟩ | ⟨g,cap,cur,h1,-⟩
  ·exact absurd h2 (by omega)
  ·injection h1 with h1;exact⟨g,h1⟩
 have hcell:=hrow.cells (g:=g) rfl (k*10+1) (.int .u32 xs[k].o.key) (flat10 xs k 1 hkx (by decide))
 have hcell2:w.cell? ⟨g,k*10+1,none⟩=some (.int .u32 xs[k].o.key):=by
  rw[tk_add] at hcell
  rw[show 0+(k*10+1)=k*10+1 by omega] at hcell
  exact hcell
 have hw3:wrap64 (k:Int)=k:=by have:=h.ok.high;have:=h.ok.few;have:=h.ok.at_ name;unfold wrap64;omega
 clear h hcell hrow hk hkey hp
 go_enter Tryz.func46,Tryz.ntmps46
 go_wp2_with fail
 go_ret
 exact⟨rfl,Below.refl _ _,n,D,_,xs,hh.out,LdK.refl _ _ _ _⟩
theorem ld_loop (G:Files) (B sp:Nat) (W0:World) (hG:GetOk G B sp W0) (f c d lp mb n:Nat) (D:DataW Unit) (vO:Value) (xs:List OM) (s:LS) (w:World) (h:LdAt c d B lp mb sp w n D vO xs s) (hB:Below B W0 w) (hBs:B≤w.heap.size) (name:List UInt8) (hn:name.length≤100000) (hp:s.pos name<0) :
  Calls Tryz.prog 46 #[.pointer (some ⟨lp,0,none⟩),.string (txt name)] w (LdEnd c d B lp mb sp w vO (Ldr.load G (f+1) name s)):=by
 rw[load_loop hp]
 have c0:=h.blk.cell 0
 have c1:=h.blk.cell 1
 have c2:=h.blk.cell 2
 have c3:=h.blk.cell 3
 have f2:=h.blk.frozen 2
 simp only[gAr,gC0,gCs] at c0 c1 c2 c3
 have hlk:=h.map.look (t:=name) (by omega)
 rw[h.pos] at hlk
 have hh:=zh h
 have hp1:¬ (0:Int)<s.pos name:=by omega
 have hp2:(s.pos name==0)=false:=by rw[beq_eq_false_iff_ne];omega
 clear h hp
 generalize s.pos name=ps at *
 go_enter Tryz.func46,Tryz.ntmps46
 go_wp2_with fail
 refine(want_no 252 _).mono ?_
 rintro e w' ⟨rfl,rfl⟩
 exact⟨rfl,rfl,Below.refl _ _⟩
theorem ld_many (G:Files) (B sp:Nat) (W0:World) (hG:GetOk G B sp W0) (f c d lp mb n:Nat) (D:DataW Unit) (vO:Value) (xs:List OM) (s:LS) (w:World) (h:LdAt c d B lp mb sp w n D vO xs s) (hB:Below B W0 w) (hBs:B≤w.heap.size) (name:List UInt8) (hn:name.length≤100000) (hp:s.pos name=0) (hb:¬ s.begun+1≤16) :
  Calls Tryz.prog 46 #[.pointer (some ⟨lp,0,none⟩),.string (txt name)] w (LdEnd c d B lp mb sp w vO (Ldr.load G (f+1) name s)):=by
 rw[load_many hp hb]
 have c0:=h.blk.cell 0
 have c1:=h.blk.cell 1
 have c2:=h.blk.cell 2
 have c3:=h.blk.cell 3
 have f2:=h.blk.frozen 2
 simp only[gAr,gC0,gCs] at c0 c1 c2 c3
 have hlk:=h.map.look (t:=name) (by omega)
 rw[h.pos] at hlk
 have hh:=zh h
 rw[hp] at hlk
 have hw1:wrap64 (s.begun+1)=s.begun+1:=by have:=h.ok.high;have:=h.ok.low;unfold wrap64;omega
 have hbE:=zh ((Below.refl B w).setCell (p:=⟨lp,2,none⟩) h.lpB (.int .i64 (s.begun+1)))
 have hb2:¬ s.begun+1≤16:=hb
 have hb3:decide (s.begun+1≤16)=false:=decide_eq_false hb
 clear h hp hb
 go_enter Tryz.func46,Tryz.ntmps46
 go_wp2_with fail
 refine(want_ok _ _).mono ?_
 rintro e w' ⟨rfl,rfl⟩
 go_wp2_with fail
 refine(want_no 3 _).mono ?_
 rintro e w' ⟨rfl,rfl⟩
 exact⟨rfl,rfl,hbE.out⟩
theorem ld_miss (G:Files) (B sp:Nat) (W0:World) (hG:GetOk G B sp W0) (f c d lp mb n:Nat) (D:DataW Unit) (vO:Value) (xs:List OM) (s:LS) (w:World) (h:LdAt c d B lp mb sp w n D vO xs s) (hB:Below B W0 w) (hBs:B≤w.heap.size) (name:List UInt8) (hn:name.length≤100000) (hp:s.pos name=0) (hb:s.begun+1≤16) (hg:G (name++dotObj)=none) :
  Calls Tryz.prog 46 #[.pointer (some ⟨lp,0,none⟩),.string (txt name)] w (LdEnd c d B lp mb sp w vO (Ldr.load G (f+1) name s)):=by
 rw[load_miss hp hb hg]
 have c0:=h.blk.cell 0
 have c1:=h.blk.cell 1
 have c2:=h.blk.cell 2
 have c3:=h.blk.cell 3
 have f2:=h.blk.frozen 2
 simp only[gAr,gC0,gCs] at c0 c1 c2 c3
 have hlk:=h.map.look (t:=name) (by omega)
 rw[h.pos] at hlk
 have hh:=zh h
 rw[hp] at hlk
 have hw1:wrap64 (s.begun+1)=s.begun+1:=by have:=h.ok.high;have:=h.ok.low;unfold wrap64;omega
 obtain⟨hA1,hK1⟩:=h.begin_ hb
 have hA1h:=zh hA1
 have hK1h:=zh hK1
 have hbE:=zh ((Below.refl B w).setCell (p:=⟨lp,2,none⟩) h.lpB (.int .i64 (s.begun+1)))
 have hBh:=zh hB
 clear h hp hA1 hK1 hB
 go_enter Tryz.func46,Tryz.ntmps46
 go_upto_region 6 with (go_at_call 48;refine(want_ok _ _).mono ?_;rintro e w' ⟨rfl,rfl⟩)
 clear c0 c1 c2 c3 f2 hlk hw1
 generalize w.setCell ⟨lp,2,none⟩ (.int .i64 (s.begun+1))=w1 at *
 have c0:=hA1h.out.blk.cell 0
 have c1:=hA1h.out.blk.cell 1
 have c2:=hA1h.out.blk.cell 2
 simp only[gAr,gC0,gCs] at c0 c1 c2
 have hx:=ext_txt name
 have hns:=txt_size name
 have GE:=zh (hG w1 (hBh.out.trans hbE.out) (name++dotObj) (by simp[dotObj];omega))
 go_wp2_with (go_at_call 48;refine(want_ok _ _).mono ?_;rintro e w' ⟨rfl,rfl⟩)
 refine GE.out.mono ?_
 rintro e w2 ⟨⟨t,rfl,hGt,htl⟩,hb2⟩
 clear GE c0 c1 c2
 have hA2:=zh (hA1h.out.below hb2)
 have hK2:=zh (hK1h.out.trans (LdK.of_below hb2))
 have hB2:=zh (hbE.out.trans (hb2.mono (Nat.le_trans hBs hbE.out.size)))
 clear hA1h hK1h hbE hb2
 rw[hg]
 clear hGt hg
 go_wp2_with fail
 refine(want_no 251 _).mono ?_
 rintro e w' ⟨rfl,rfl⟩
 exact⟨rfl,rfl,hB2.out⟩
theorem ld_bad (G:Files) (B sp:Nat) (W0:World) (hG:GetOk G B sp W0) (f c d lp mb n:Nat) (D:DataW Unit) (vO:Value) (xs:List OM) (s:LS) (w:World) (h:LdAt c d B lp mb sp w n D vO xs s) (hB:Below B W0 w) (hBs:B≤w.heap.size) (name:List UInt8) (hn:name.length≤100000) (hp:s.pos name=0) (hb:s.begun+1≤16) (tx:List UInt8) (hg:G (name++dotObj)=some tx) (hd:decO tx=none) :
  Calls Tryz.prog 46 #[.pointer (some ⟨lp,0,none⟩),.string (txt name)] w (LdEnd c d B lp mb sp w vO (Ldr.load G (f+1) name s)):=by
 rw[load_bad hp hb hg hd]
 have c0:=h.blk.cell 0
 have c1:=h.blk.cell 1
 have c2:=h.blk.cell 2
 have c3:=h.blk.cell 3
 have f2:=h.blk.frozen 2
 simp only[gAr,gC0,gCs] at c0 c1 c2 c3
 have hlk:=h.map.look (t:=name) (by omega)
 rw[h.pos] at hlk
 have hh:=zh h
 rw[hp] at hlk
 have hw1:wrap64 (s.begun+1)=s.begun+1:=by have:=h.ok.high;have:=h.ok.low;unfold wrap64;omega
 obtain⟨hA1,hK1⟩:=h.begin_ hb
 have hA1h:=zh hA1
 have hK1h:=zh hK1
 have hbE:=zh ((Below.refl B w).setCell (p:=⟨lp,2,none⟩) h.lpB (.int .i64 (s.begun+1)))
 have hBh:=zh hB
 clear h hp hA1 hK1 hB
 go_enter Tryz.func46,Tryz.ntmps46
 go_upto_region 6 with (go_at_call 48;refine(want_ok _ _).mono ?_;rintro e w' ⟨rfl,rfl⟩)
 clear c0 c1 c2 c3 f2 hlk hw1
 generalize w.setCell ⟨lp,2,none⟩ (.int .i64 (s.begun+1))=w1 at *
 have c0:=hA1h.out.blk.cell 0
 have c1:=hA1h.out.blk.cell 1
 have c2:=hA1h.out.blk.cell 2
 simp only[gAr,gC0,gCs] at c0 c1 c2
 have hx:=ext_txt name
 have hns:=txt_size name
 have GE:=zh (hG w1 (hBh.out.trans hbE.out) (name++dotObj) (by simp[dotObj];omega))
 go_wp2_with (go_at_call 48;refine(want_ok _ _).mono ?_;rintro e w' ⟨rfl,rfl⟩)
 refine GE.out.mono ?_
 rintro e w2 ⟨⟨t,rfl,hGt,htl⟩,hb2⟩
 clear GE c0 c1 c2
 have hA2:=zh (hA1h.out.below hb2)
 have hK2:=zh (hK1h.out.trans (LdK.of_below hb2))
 have hB2:=zh (hbE.out.trans (hb2.mono (Nat.le_trans hBs hbE.out.size)))
 clear hA1h hK1h hbE hb2
 rw[hg] at hGt ⊢
 have htt:t=tx:=by
  rcases hGt with h | h
  ·injection h with h;exact h.symm
  ·cases h
 subst htt
 clear hGt hg
 have DE:=zh (obj_decode2 t w2 (by omega))
 go_wp2_with (go_at_call 48;refine(want_ok _ _).mono ?_;rintro e w' ⟨rfl,rfl⟩)
 refine DE.out.mono ?_
 rintro e w3 ⟨hend,hb3⟩
 clear DE
 have hA3:=zh (hA2.out.below hb3)
 have hK3:=zh (hK2.out.trans (LdK.of_below hb3))
 have hB3:=zh (hB2.out.trans (hb3.mono (Nat.le_trans hBs hB2.out.size)))
 have hs23:=hb3.size
 clear hA2 hK2 hb3
 rcases hend with ⟨o,vU,vD,vC,vE,Bx,dv,h1,-⟩ | ⟨h1,rfl⟩
 ·rw[hd] at h1;cases h1
 ·clear h1
  have hbE:=zh (hB3.out.alloc (Nat.le_trans hBs hB3.out.size) (.cells (obCells zeroOb nilS nilS nilS nilS) obT))
  go_upto_region 10 with (refine wpList_store_last rfl obT (.tmp 8) (.tmp 65) rfl w3 (obCells zeroOb nilS nilS nilS nilS) _ _ rfl rfl rfl (by kernel_rfl) rfl (by kernel_rfl) ?_)
  go_wp2_with fail
  refine(want_no 230 _).mono ?_
  rintro e w' ⟨rfl,rfl⟩
  exact⟨rfl,rfl,hbE.out⟩
theorem ld_named (G:Files) (B sp:Nat) (W0:World) (hG:GetOk G B sp W0) (f c d lp mb n:Nat) (D:DataW Unit) (vO:Value) (xs:List OM) (s:LS) (w:World) (h:LdAt c d B lp mb sp w n D vO xs s) (hB:Below B W0 w) (hBs:B≤w.heap.size) (name:List UInt8) (hn:name.length≤100000) (hp:s.pos name=0) (hb:s.begun+1≤16) (tx:List UInt8) (hg:G (name++dotObj)=some tx) (o:Ob) (hd:decO tx=some o) (hne:o.name≠name) :
  Calls Tryz.prog 46 #[.pointer (some ⟨lp,0,none⟩),.string (txt name)] w (LdEnd c d B lp mb sp w vO (Ldr.load G (f+1) name s)):=by
 rw[load_named hp hb hg hd hne]
 have c0:=h.blk.cell 0
 have c1:=h.blk.cell 1
 have c2:=h.blk.cell 2
 have c3:=h.blk.cell 3
 have f2:=h.blk.frozen 2
 simp only[gAr,gC0,gCs] at c0 c1 c2 c3
 have hlk:=h.map.look (t:=name) (by omega)
 rw[h.pos] at hlk
 have hh:=zh h
 rw[hp] at hlk
 have hw1:wrap64 (s.begun+1)=s.begun+1:=by have:=h.ok.high;have:=h.ok.low;unfold wrap64;omega
 obtain⟨hA1,hK1⟩:=h.begin_ hb
 have hA1h:=zh hA1
 have hK1h:=zh hK1
 have hbE:=zh ((Below.refl B w).setCell (p:=⟨lp,2,none⟩) h.lpB (.int .i64 (s.begun+1)))
 have hBh:=zh hB
 clear h hp hA1 hK1 hB
 go_enter Tryz.func46,Tryz.ntmps46
 go_upto_region 6 with (go_at_call 48;refine(want_ok _ _).mono ?_;rintro e w' ⟨rfl,rfl⟩)
 clear c0 c1 c2 c3 f2 hlk hw1
 generalize w.setCell ⟨lp,2,none⟩ (.int .i64 (s.begun+1))=w1 at *
 have c0:=hA1h.out.blk.cell 0
 have c1:=hA1h.out.blk.cell 1
 have c2:=hA1h.out.blk.cell 2
 simp only[gAr,gC0,gCs] at c0 c1 c2
 have hx:=ext_txt name
 have hns:=txt_size name
 have GE:=zh (hG w1 (hBh.out.trans hbE.out) (name++dotObj) (by simp[dotObj];omega))
 go_wp2_with (go_at_call 48;refine(want_ok _ _).mono ?_;rintro e w' ⟨rfl,rfl⟩)
 refine GE.out.mono ?_
 rintro e w2 ⟨⟨t,rfl,hGt,htl⟩,hb2⟩
 clear GE c0 c1 c2
 have hA2:=zh (hA1h.out.below hb2)
 have hK2:=zh (hK1h.out.trans (LdK.of_below hb2))
 have hB2:=zh (hbE.out.trans (hb2.mono (Nat.le_trans hBs hbE.out.size)))
 clear hA1h hK1h hbE hb2
 rw[hg] at hGt ⊢
 have htt:t=tx:=by
  rcases hGt with h | h
  ·injection h with h;exact h.symm
  ·cases h
 subst htt
 clear hGt hg
 have DE:=zh (obj_decode2 t w2 (by omega))
 go_wp2_with (go_at_call 48;refine(want_ok _ _).mono ?_;rintro e w' ⟨rfl,rfl⟩)
 refine DE.out.mono ?_
 rintro e w3 ⟨hend,hb3⟩
 clear DE
 have hA3:=zh (hA2.out.below hb3)
 have hK3:=zh (hK2.out.trans (LdK.of_below hb3))
 have hB3:=zh (hB2.out.trans (hb3.mono (Nat.le_trans hBs hB2.out.size)))
 have hs23:=hb3.size
 clear hA2 hK2 hb3
 rcases hend with ⟨o',vU,vD,vC,vE,Bx,dv,h1,hf,rfl,hP,hR,hds⟩ | ⟨h1,-⟩
 case inr=>rw[hd] at h1;cases h1
 obtain rfl:o=o':=by rw[hd] at h1;injection h1
 clear h1
 obtain⟨⟨-,AU,cU,rfl,-⟩,⟨-,AD,cD,rfl,-⟩,⟨-,AC,cC,rfl,-⟩,⟨-,AE,cE,rfl,-⟩⟩:=id hP
 have hX:=zh (show OmAt w3 ⟨o,.slice AU o.uses.length cU,.slice AD o.descs.length cD,.slice AC o.code.length cC,.slice AE o.entries.length cE,dv⟩ from ⟨hP,hf,⟨Bx,hR⟩,hds⟩)
 clear hP hf hR hds
 have hb4:Below w3.heap.size w3 (w3.alloc (.cells (obCells o (.slice AU o.uses.length cU) (.slice AD o.descs.length cD) (.slice AC o.code.length cC) (.slice AE o.entries.length cE)) obT)):=(Below.refl _ _).alloc (Nat.le_refl _) _
 have hA4:=zh (hA3.out.below hb4)
 have hK4:=zh (hK3.out.trans (LdK.of_below hb4))
 have hB4:=zh (hB3.out.trans (hb4.mono (Nat.le_trans hBs hB3.out.size)))
 have hX4:=zh (hX.out.below hb4)
 have L4:=zh (Blk.new w3 obT (obCells o (.slice AU o.uses.length cU) (.slice AD o.descs.length cD) (.slice AC o.code.length cC) (.slice AE o.entries.length cE)))
 have g8lt:w.heap.size≤w3.heap.size:=hK3.out.kept.size
 have g8h:=zh g8lt
 clear hA3 hK3 hB3 hX hb4 g8lt
 have hi:Hid ((Tryz.prog.info? obT).map (·.size)=some (obCells o (.slice AU o.uses.length cU) (.slice AD o.descs.length cD) (.slice AC o.code.length cC) (.slice AE o.entries.length cE)).size):=zh (by kernel_rfl)
 have hj:Hid ((#[.string ⟨#[]⟩,.int .u32 0,.slice none 0 0,.slice none 0 0,.int .i64 0,.string ⟨#[]⟩,.slice none 0 0,.slice none 0 0,.int .i64 0,.int .i64 0]:Array Value).size=(obCells o (.slice AU o.uses.length cU) (.slice AD o.descs.length cD) (.slice AC o.code.length cC) (.slice AE o.entries.length cE)).size):=zh rfl
 have hk:Hid ((obCells o (.slice AU o.uses.length cU) (.slice AD o.descs.length cD) (.slice AC o.code.length cC) (.slice AE o.entries.length cE)).all (·.oneCell')=true):=zh (by simp[obCells,Value.oneCell'])
 go_upto_region 10 with (refine wpList_store_last rfl obT (.tmp 8) (.tmp 65) rfl w3 (obCells o (.slice AU o.uses.length cU) (.slice AD o.descs.length cD) (.slice AC o.code.length cC) (.slice AE o.entries.length cE)) _ _ rfl rfl rfl hi.out hj.out hk.out ?_)
 clear hi hj hk
 generalize w3.alloc (.cells (obCells o (.slice AU o.uses.length cU) (.slice AD o.descs.length cD) (.slice AC o.code.length cC) (.slice AE o.entries.length cE)) obT)=w4 at *
 generalize w3.heap.size=g8 at *
 have n0:w4.cell? ⟨g8,0,none⟩=some (.string (txt o.name)):=L4.out.cell 0
 have hs:((txt o.name).toList==(txt name).toList)=false:=by rw[Bool.eq_false_iff];exact fun e=>hne (txt_inj ((sl_same' _ _).1 e))
 have hs2:¬ (txt o.name).toList=(txt name).toList:=by simpa using hs
 clear hne
 go_wp2_with fail
 refine(want_no 230 _).mono ?_
 rintro e w' ⟨rfl,rfl⟩
 exact⟨rfl,rfl,hB4.out⟩
def LoadsBy (G:Files) (B sp:Nat) (W0:World) (f:Nat):Prop:=∀ (c d lp mb n:Nat) (D:DataW Unit) (vO:Value) (xs:List OM) (s:LS) (w:World),LdAt c d B lp mb sp w n D vO xs s→Below B W0 w→B≤w.heap.size→17≤s.begun+f→∀ name:List UInt8,name.length≤100000 →
 Calls Tryz.prog 46 #[.pointer (some ⟨lp,0,none⟩),.string (txt name)] w (LdEnd c d B lp mb sp w vO (Ldr.load G f name s))
theorem blk_ldk {c d B lp mb sp n:Nat} {w w':World} {D:DataW Unit} {vO:Value} {xs:List OM} {s:LS} {r':Option Nat} (h:LdAt c d B lp mb sp w n D vO xs s) (hk:LdK lp mb vO.ownBlock r' w w') {g:Nat} {t:TypeId} {cs:Array Value} (hb:Blk w g t cs) (ht:t≠ldT) (hr:∀ k,vO.ownBlock=some k→k≠g):Blk w' g t cs:=
 (hk.kept.block g ⟨hb.lt,fun e=>by subst e;exact hb.ne_ h.blk ht rfl,h.map.blk hb,fun e=>hr g e.symm rfl⟩).trans hb
theorem ld_uses (G:Files) (B sp:Nat) (W0:World) (hG:GetOk G B sp W0) (f c d lp mb n:Nat) (D:DataW Unit) (vO:Value) (xs:List OM) (s:LS) (w:World) (h:LdAt c d B lp mb sp w n D vO xs s) (hB:Below B W0 w) (hBs:B≤w.heap.size) (name:List UInt8) (hn:name.length≤100000) (IH:LoadsBy G B sp W0 f) (hf17:17≤s.begun+(f+1)) (hp:s.pos name=0) (hb:s.begun+1≤16) (tx:List UInt8) (hg:G (name++dotObj)=some tx) (o:Ob) (hd:decO tx=some o) (hne:o.name=name) :
  Calls Tryz.prog 46 #[.pointer (some ⟨lp,0,none⟩),.string (txt name)] w (LdEnd c d B lp mb sp w vO (Ldr.load G (f+1) name s)):=by
 rw[load_uses hp hb hg hd hne]
 have hgood:=decO_some hd
 have c0:=h.blk.cell 0
 have c1:=h.blk.cell 1
 have c2:=h.blk.cell 2
 have c3:=h.blk.cell 3
 have f2:=h.blk.frozen 2
 simp only[gAr,gC0,gCs] at c0 c1 c2 c3
 have hlk:=h.map.look (t:=name) (by omega)
 rw[h.pos] at hlk
 have hh:=zh h
 rw[hp] at hlk
 have hw1:wrap64 (s.begun+1)=s.begun+1:=by have:=h.ok.high;have:=h.ok.low;unfold wrap64;omega
 obtain⟨hA1,hK1⟩:=h.begin_ hb
 have hA1h:=zh hA1
 have hK1h:=zh hK1
 have hbE:=zh ((Below.refl B w).setCell (p:=⟨lp,2,none⟩) h.lpB (.int .i64 (s.begun+1)))
 have hBh:=zh hB
 clear h hp hA1 hK1 hB
 go_enter Tryz.func46,Tryz.ntmps46
 go_upto_region 6 with (go_at_call 48;refine(want_ok _ _).mono ?_;rintro e w' ⟨rfl,rfl⟩)
 clear c0 c1 c2 c3 f2 hlk hw1
 generalize w.setCell ⟨lp,2,none⟩ (.int .i64 (s.begun+1))=w1 at *
 have c0:=hA1h.out.blk.cell 0
 have c1:=hA1h.out.blk.cell 1
 have c2:=hA1h.out.blk.cell 2
 simp only[gAr,gC0,gCs] at c0 c1 c2
 have hx:=ext_txt name
 have hns:=txt_size name
 have GE:=zh (hG w1 (hBh.out.trans hbE.out) (name++dotObj) (by simp[dotObj];omega))
 go_wp2_with (go_at_call 48;refine(want_ok _ _).mono ?_;rintro e w' ⟨rfl,rfl⟩)
 refine GE.out.mono ?_
 rintro e w2 ⟨⟨t,rfl,hGt,htl⟩,hb2⟩
 clear GE c0 c1 c2
 have hA2:=zh (hA1h.out.below hb2)
 have hK2:=zh (hK1h.out.trans (LdK.of_below hb2))
 have hB2:=zh (hbE.out.trans (hb2.mono (Nat.le_trans hBs hbE.out.size)))
 clear hA1h hK1h hbE hb2
 rw[hg] at hGt ⊢
 have htt:t=tx:=by
  rcases hGt with h | h
  ·injection h with h;exact h.symm
  ·cases h
 subst htt
 clear hGt hg
 have DE:=zh (obj_decode2 t w2 (by omega))
 go_wp2_with (go_at_call 48;refine(want_ok _ _).mono ?_;rintro e w' ⟨rfl,rfl⟩)
 refine DE.out.mono ?_
 rintro e w3 ⟨hend,hb3⟩
 clear DE
 have hA3:=zh (hA2.out.below hb3)
 have hK3:=zh (hK2.out.trans (LdK.of_below hb3))
 have hB3:=zh (hB2.out.trans (hb3.mono (Nat.le_trans hBs hB2.out.size)))
 have hs23:=hb3.size
 clear hA2 hK2 hb3
 rcases hend with ⟨o',vU,vD,vC,vE,Bx,dv,h1,hf,rfl,hP,hR,hds⟩ | ⟨h1,-⟩
 case inr=>rw[hd] at h1;cases h1
 obtain rfl:o=o':=by rw[hd] at h1;injection h1
 clear h1
 obtain⟨⟨-,AU,cU,rfl,-⟩,⟨-,AD,cD,rfl,-⟩,⟨-,AC,cC,rfl,-⟩,⟨-,AE,cE,rfl,-⟩⟩:=id hP
 have hX:=zh (show OmAt w3 ⟨o,.slice AU o.uses.length cU,.slice AD o.descs.length cD,.slice AC o.code.length cC,.slice AE o.entries.length cE,dv⟩ from ⟨hP,hf,⟨Bx,hR⟩,hds⟩)
 clear hP hf hR hds
 have hb4:Below w3.heap.size w3 (w3.alloc (.cells (obCells o (.slice AU o.uses.length cU) (.slice AD o.descs.length cD) (.slice AC o.code.length cC) (.slice AE o.entries.length cE)) obT)):=(Below.refl _ _).alloc (Nat.le_refl _) _
 have hA4:=zh (hA3.out.below hb4)
 have hK4:=zh (hK3.out.trans (LdK.of_below hb4))
 have hB4:=zh (hB3.out.trans (hb4.mono (Nat.le_trans hBs hB3.out.size)))
 have hX4:=zh (hX.out.below hb4)
 have L4:=zh (Blk.new w3 obT (obCells o (.slice AU o.uses.length cU) (.slice AD o.descs.length cD) (.slice AC o.code.length cC) (.slice AE o.entries.length cE)))
 have g8lt:w.heap.size≤w3.heap.size:=hK3.out.kept.size
 have g8h:=zh g8lt
 have hr8:∀ k,vO.ownBlock=some k→k≠w3.heap.size:=fun k hk=>by have:=(hA3.out.row.lt k hk).2;omega
 have hr8:=zh hr8
 clear hA3 hK3 hB3 hX hb4 g8lt
 have hi:Hid ((Tryz.prog.info? obT).map (·.size)=some (obCells o (.slice AU o.uses.length cU) (.slice AD o.descs.length cD) (.slice AC o.code.length cC) (.slice AE o.entries.length cE)).size):=zh (by kernel_rfl)
 have hj:Hid ((#[.string ⟨#[]⟩,.int .u32 0,.slice none 0 0,.slice none 0 0,.int .i64 0,.string ⟨#[]⟩,.slice none 0 0,.slice none 0 0,.int .i64 0,.int .i64 0]:Array Value).size=(obCells o (.slice AU o.uses.length cU) (.slice AD o.descs.length cD) (.slice AC o.code.length cC) (.slice AE o.entries.length cE)).size):=zh rfl
 have hk:Hid ((obCells o (.slice AU o.uses.length cU) (.slice AD o.descs.length cD) (.slice AC o.code.length cC) (.slice AE o.entries.length cE)).all (·.oneCell')=true):=zh (by simp[obCells,Value.oneCell'])
 go_upto_region 10 with (refine wpList_store_last rfl obT (.tmp 8) (.tmp 65) rfl w3 (obCells o (.slice AU o.uses.length cU) (.slice AD o.descs.length cD) (.slice AC o.code.length cC) (.slice AE o.entries.length cE)) _ _ rfl rfl rfl hi.out hj.out hk.out ?_)
 clear hi hj hk
 generalize w3.alloc (.cells (obCells o (.slice AU o.uses.length cU) (.slice AD o.descs.length cD) (.slice AC o.code.length cC) (.slice AE o.entries.length cE)) obT)=w4 at *
 generalize w3.heap.size=g8 at *
 have n0:w4.cell? ⟨g8,0,none⟩=some (.string (txt o.name)):=L4.out.cell 0
 subst hne
 have c1:=hA4.out.blk.cell 1
 simp only[gAr,gC0,gCs] at c1
 have hnl:o.name.length≤9223372036854775807:=by omega
 have hnb:n+1≤maxLen:=by have:=hA4.out.few;have h2:=hA4.out.ok.high;simp only[maxLen];omega
 have u2:w4.cell? ⟨g8,2,none⟩=some (.slice AU o.uses.length cU):=L4.out.cell 2
 go_wp2_with (first | (go_at_call 48;refine(want_ok _ _).mono ?_;rintro e w' ⟨rfl,rfl⟩) | (refine wpList_mapUpdate_own _ rfl (.tmp 79) (.tmp 80) (.const (.int .i64 (-1))) 95 rfl 9 3 str_keyed Tryz.underlying95 (plainElem Tryz.prog 3) mb n D rfl hA4.out.map hnb (.string (txt o.name)) (.int .i64 (-1)) (skey o.name) rfl rfl (keyOf_txt hnl) (snum (-1)) [] (plainElem_int Tryz.underlying3 (by decide)) ?_;intro w5 hm5 hg5;obtain⟨hA5,hK5⟩:=LdAt.put_ hA4.out hm5 hg5 (by omega);have hA5h:=zh hA5;have L5:=zh (blk_ldk hA4.out hK5 L4.out (by decide) hr8.out);have hX5:=zh (hX4.out.keepB (hK5.keepB hA4.out) ld_noRow);have hB5:=zh (hB4.out.grown hg5 (Nat.le_trans hBs hB4.out.size) (fun q hq=>by have hq:=Option.some.inj hq;subst hq;exact hA4.out.mbB));have hK5h:=zh (hK4.out.trans hK5);have v2:w5.cell? ⟨g8,2,none⟩=some (.slice AU o.uses.length cU):=L5.out.cell 2;clear hm5 hg5 hA5 hK5))
 go_loopw [84] (fun i wr=>∃ (k n1:Nat) (D1:DataW Unit) (vO1:Value) (xs1:List OM) (s1:LS),i=.int .i64 k∧k≤o.uses.length∧Hid (usesL (Ldr.load G f) (o.uses.take k) (s.mark o.name)=.ok s1∧LdAt (c+1) (d+1) B lp mb sp wr n1 D1 vO1 xs1 s1∧LdK lp mb vO.ownBlock vO1.ownBlock w5 wr∧Below B w5 wr)) (fun i _=>o.uses.length-(intOf i).toNat)
 case atStart=>exact⟨0,n+1,_,vO,xs,s.mark o.name,rfl,by omega,zh ⟨rfl,hA5h.out,LdK.refl _ _ _ _,Below.refl _ _⟩⟩
 case round=>
  obtain⟨k,n1,D1,vO1,xs1,s1,rfl,hk,hI⟩:=hrel
  obtain⟨i1,i2,i3,i4⟩:=hI.out
  by_cases hlt:(k:Int)<(o.uses.length:Int)
  ·have hkl:k<o.uses.length:=by omega
   have LR:=blk_ldk hA5h.out i3 L5.out (by decide) hr8.out
   have hXR:=hX5.out.keepB (i3.keepB hA5h.out) ld_noRow
   obtain⟨ad,hAd,had,x1⟩:=row_at hXR.parts.uses k hkl
   subst hAd
   obtain⟨y0,x3,p0⟩:=x1 0 (by decide)
   obtain⟨y1,x4,p1⟩:=x1 1 (by decide)
   obtain rfl:=p0.1 rfl
   obtain rfl:=p1.2 rfl
   have X3:wr.cell? (ad.add (k*2))=some (.string (txt o.uses[k].1)):=x3
   have X4:wr.cell? ⟨(ad.add (k*2)).block,(ad.add (k*2)).off+1,none⟩=some (.int .u32 o.uses[k].2):=x4
   have hu16:o.uses.length≤16:=(good_wr hgood.1).uses
   have hnm:o.uses[k].1.length≤100000:=good_names hgood.1 _ (List.getElem_mem hkl)
   have hfail:=fun x (h:Ldr.load G f o.uses[k].1 s1=.error x)=>usesL_fail hkl i1 h
   have hother:=fun x s2 (h:Ldr.load G f o.uses[k].1 s1=.ok (x,s2)) h3=>usesL_other hkl i1 h h3
   have hnext:=fun x s2 (h:Ldr.load G f o.uses[k].1 s1=.ok (x,s2)) (h3:x=o.uses[k].2)=>usesL_snoc i1 h h3
   have htk:o.uses.take (k+1)=o.uses.take k++[o.uses[k]]:=by rw[List.take_add_one,List.getElem?_eq_getElem hkl];rfl
   rw[← htk] at hnext
   have hfailh:=zh hfail
   have hotherh:=zh hother
   have hnexth:=zh hnext
   clear hfail hother hnext htk x1 x3 x4 p0 p1
   generalize o.uses[k]=uk at *
   obtain⟨a0,a1⟩:=uk
   dsimp only at X3 X4 hnm
   have hb6:Below wr.heap.size wr (wr.alloc (.cells #[.string (txt a0),.int .u32 a1] 54)):=(Below.refl _ _).alloc (Nat.le_refl _) _
   have hA6:=zh (i2.below hb6)
   have hK6:=zh (i3.trans (LdK.of_below hb6))
   have hBs6:B≤wr.heap.size:=Nat.le_trans (Nat.le_trans hBs hB5.out.size) i4.size
   have hB6:=zh (i4.trans (hb6.mono hBs6))
   have U6:=zh (Blk.new wr 54 #[.string (txt a0),.int .u32 a1])
   have hub:∀ q,vO1.ownBlock=some q→q≠wr.heap.size:=fun q hq=>by have:=(i2.row.lt q hq).2;omega
   have hubh:=zh hub
   have hbg:s.begun+1≤s1.begun:=usesL_begun (load_begun G f) _ _ _ i1
   have hbgh:=zh hbg
   clear i1 i2 i3 i4 hI LR hXR hb6 hub hbg
   go_upto_region 15 with fail
   clear X3 X4
   generalize wr.alloc (.cells #[.string (txt a0),.int .u32 a1] 54)=w6 at *
   generalize wr.heap.size=ub at *
   refine wp_region_F (fun w'=>w'.cell? ⟨ub,0,none⟩=some (.string (txt a0))∧w'.cell? ⟨ub,1,none⟩=some (.int .u32 a1)) 7 (by kernel_rfl) ?_
   have S0:(fun w'=>w'.cell? ⟨ub,0,none⟩=some (.string (txt a0))∧w'.cell? ⟨ub,1,none⟩=some (.int .u32 a1)) w6.drew:=⟨U6.out.cell 0,U6.out.cell 1⟩
   dsimp only at S0
   refine wpAnyF_takeC [3,0] 0 (v:=?_) rfl (by kernel_rfl) (by kernel_rfl) rfl (by decide) (by kernel_rfl) (by kernel_rfl) (by kernel_rfl) (fun _ _ _ h=>h) (by rfl) ?_ S0 ?_
   rotate_left
   ·(intro _ h;obtain⟨_,_⟩:=h;go_simp<;>with_reducible rfl)
   try simp only[Act.put,sAp,sA0,sAs]
   refine wpAnyF_takeC [3,2,1] 1 (v:=?_) rfl (by kernel_rfl) (by kernel_rfl) rfl (by decide) (by kernel_rfl) (by kernel_rfl) (by kernel_rfl) (fun _ _ _ h=>h) (by rfl) ?_ S0 ?_
   rotate_left
   ·(intro _ h;obtain⟨_,_⟩:=h;go_simp<;>with_reducible rfl)
   try simp only[Act.put,sAp,sA0,sAs]
   refine wpAnyF_takeC [3,2] 2 (v:=?_) rfl (by kernel_rfl) (by kernel_rfl) rfl (by decide) (by kernel_rfl) (by kernel_rfl) (by kernel_rfl) (fun _ _ _ h=>h) (by rfl) ?_ S0 ?_
   rotate_left
   ·(intro _ h;obtain⟨_,_⟩:=h;go_simp<;>with_reducible rfl)
   try simp only[Act.put,sAp,sA0,sAs]
   refine wpAnyF_takeC [6,5,4] 4 (v:=?_) rfl (by kernel_rfl) (by kernel_rfl) rfl (by decide) (by kernel_rfl) (by kernel_rfl) (by kernel_rfl) (fun _ _ _ h=>h) (by rfl) ?_ S0 ?_
   rotate_left
   ·(intro _ h;obtain⟨_,_⟩:=h;go_simp<;>with_reducible rfl)
   try simp only[Act.put,sAp,sA0,sAs]
   refine wpAnyF_takeC [6,5] 5 (v:=?_) rfl (by kernel_rfl) (by kernel_rfl) rfl (by decide) (by kernel_rfl) (by kernel_rfl) (by kernel_rfl) (fun _ _ _ h=>h) (by rfl) ?_ S0 ?_
   rotate_left
   ·(intro _ h;obtain⟨_,_⟩:=h;go_simp<;>with_reducible rfl)
   try simp only[Act.put,sAp,sA0,sAs]
   refine hfRdy 3 (by kernel_rfl) rfl fun K hK=>?_
   go_simp
   have hA6d:=zh (hA6.out.below (Below.refl w6.heap.size w6).drew)
   have hIH:=IH (c+1) (d+1) lp mb n1 D1 vO1 xs1 s1 w6.drew hA6d.out (hBh.out.trans (hB5.out.trans hB6.out.drew)) (Nat.le_trans hBs (hB5.out.trans hB6.out.drew).size) (by have:=hbgh.out;omega) a0 hnm
   cases hr:Ldr.load G f a0 s1 with
   | error x=>
    rw[hr] at hIH
    refine hIH.mono ?_
    rintro e w7 ⟨rfl,hb7⟩
    have hfx:=hfailh.out x hr
    have fin:LdEnd c d B lp mb sp w vO (loadBy o.name o (usesL (Ldr.load G f) o.uses (s.mark o.name))) (faultE x) w7:=by
     rw[hfx]
     exact⟨rfl,hB5.out.trans (hB6.out.drew.trans hb7)⟩
    exact⟨rfl,fin⟩
   | ok r=>
    obtain⟨kk,s2⟩:=r
    rw[hr] at hIH
    refine hIH.mono ?_
    rintro e w7 ⟨rfl,hb7,n7,D7,vO7,xs7,hA7,hK7⟩
    have U7:=zh (blk_ldk hA6d.out hK7 U6.out.drew (by decide) hubh.out)
    have S1:(fun w'=>w'.cell? ⟨ub,0,none⟩=some (.string (txt a0))∧w'.cell? ⟨ub,1,none⟩=some (.int .u32 a1)) w7:=⟨U7.out.cell 0,U7.out.cell 1⟩
    dsimp only at S1
    have hA7h:=zh hA7
    have hK7h:=zh ((hK6.out.trans (LdK.of_below (Below.refl w6.heap.size w6).drew)).trans hK7)
    have hB7h:=zh (hB6.out.drew.trans hb7)
    have hox:=zh (hotherh.out kk s2 hr)
    have hnx:=zh (hnexth.out kk s2 hr)
    refine hK.out _ _ (fun _=>S1) ?_
    clear hK K S0 hIH hr hA7 hK7 hb7
    try simp only[Act.put,sAp,sA0,sAs]
    by_cases hke:kk=a1
    ·have hnx2:=zh (hnx.out hke)
     subst hke
     refine hfTake 6 (v:=?_) ?_ S1 ?_
     rotate_left
     ·(intro _ h;obtain⟨_,_⟩:=h;go_simp<;>with_reducible rfl)
     try simp only[Act.put,sAp,sA0,sAs]
     refine hfRdy 7 (by kernel_rfl) rfl fun K hK=>?_
     go_simp
     refine(want_ok _ _).mono ?_
     rintro e w8 ⟨rfl,rfl⟩
     refine hK.out _ _ (fun h=>absurd rfl h) ?_
     clear hK K
     try simp only[Act.put,sAp,sA0,sAs]
     refine wpAnyF_done (by kernel_rfl) ?_ _
     go_wp2_with fail
     exact⟨⟨k+1,n7,D7,vO7,xs7,s2,by go_num,by omega,zh ⟨hnx2.out,hA7h.out,hK7h.out,hB7h.out⟩⟩,by simp[intOf];omega⟩
    ·have hox2:=hox.out hke
     have hkb:(kk==a1)=false:=by rw[beq_eq_false_iff_ne];exact hke
     clear hke
     refine hfTake 6 (v:=?_) ?_ S1 ?_
     rotate_left
     ·(intro _ h;obtain⟨_,_⟩:=h;go_simp<;>with_reducible rfl)
     try simp only[Act.put,sAp,sA0,sAs]
     refine hfRdy 7 (by kernel_rfl) rfl fun K hK=>?_
     go_simp
     refine(want_no 184 _).mono ?_
     rintro e w8 ⟨rfl,rfl⟩
     have fin:LdEnd c d B lp mb sp w vO (loadBy o.name o (usesL (Ldr.load G f) o.uses (s.mark o.name))) (faultE 184) w7:=by
      rw[hox2]
      exact⟨rfl,hB5.out.trans hB7h.out⟩
     exact⟨rfl,fin⟩
  ·have hkn:k=o.uses.length:=by omega
   rw[hkn,List.take_length] at i1
   have hush:=zh i1
   have LR:=blk_ldk hA5h.out i3 L5.out (by decide) hr8.out
   have hXR:=hX5.out.keepB (i3.keepB hA5h.out) ld_noRow
   have hr9:∀ q,vO1.ownBlock=some q→q≠g8:=fun q hq=>by
    rcases i3.row q hq with h | h
    ·exact hr8.out q h
    ·have:=L5.out.lt;omega
   have hBs6:B≤wr.heap.size:=Nat.le_trans (Nat.le_trans hBs hB5.out.size) i4.size
   have hr9h:=zh hr9
   have hdr:Below wr.heap.size wr wr.drew:=(Below.refl _ _).drew
   have hA6:=zh (i2.below hdr)
   have hK6:=zh (i3.trans (LdK.of_below hdr))
   have hB6:=zh (i4.trans (hdr.mono hBs6))
   have L6:Hid (Blk wr.drew g8 obT (obCells o (.slice AU o.uses.length cU) (.slice AD o.descs.length cD) (.slice AC o.code.length cC) (.slice AE o.entries.length cE))):=zh LR
   have hX6:=zh (hXR.below hdr)
   have hBw:B≤wr.drew.heap.size:=hBs6
   clear i1 i2 i3 i4 hI LR hXR hr9 hdr hBs6 hkn
   go_upto_region 17 with fail
   refine wp_region_F (fun w'=>w'.cell? ⟨lp,3,none⟩=some vO1∧Blk w' g8 obT (obCells o (.slice AU o.uses.length cU) (.slice AD o.descs.length cD) (.slice AC o.code.length cC) (.slice AE o.entries.length cE))) 10 (by kernel_rfl) ?_
   have S0:wr.drew.cell? ⟨lp,3,none⟩=some vO1∧Blk wr.drew g8 obT (obCells o (.slice AU o.uses.length cU) (.slice AD o.descs.length cD) (.slice AC o.code.length cC) (.slice AE o.entries.length cE)):=⟨hA6.out.blk.cell 3,L6.out⟩
   generalize wr.drew=wd at *
   refine hfTake 0 (v:=?_) ?_ S0 ?_
   rotate_left
   ·(intro _ h;obtain⟨_,_⟩:=h;go_simp<;>with_reducible rfl)
   try simp only[Act.put,sAp,sA0,sAs]
   refine hfTake 1 (v:=?_) ?_ S0 ?_
   rotate_left
   ·(intro _ h;obtain⟨_,_⟩:=h;go_simp<;>with_reducible rfl)
   try simp only[Act.put,sAp,sA0,sAs]
   refine hfTake 2 (v:=?_) ?_ S0 ?_
   rotate_left
   ·(intro _ h;obtain⟨_,_⟩:=h;go_simp<;>with_reducible rfl)
   try simp only[Act.put,sAp,sA0,sAs]
   refine hfTake 3 (v:=?_) ?_ S0 ?_
   rotate_left
   ·(intro _ h;obtain⟨_,_⟩:=h;go_simp<;>with_reducible rfl)
   try simp only[Act.put,sAp,sA0,sAs]
   refine hfTake 4 (v:=?_) ?_ S0 ?_
   rotate_left
   ·(intro _ h;obtain⟨_,_⟩:=h;go_simp<;>with_reducible rfl)
   try simp only[Act.put,sAp,sA0,sAs]
   refine wpAnyF_takeY 5 rfl (by kernel_rfl) (by kernel_rfl) (by kernel_rfl) (by kernel_rfl) (fun _ _ _ h=>h) (yieldsIf_load_mid rfl obT (.tmp 8) rfl g8 0 rfl (obCells o (.slice AU o.uses.length cU) (.slice AD o.descs.length cD) (.slice AC o.code.length cC) (.slice AE o.entries.length cE)).toList _ (fun wS hSw=>ld_blk_range hSw.2) Tryz.underlying48 rfl (by kernel_rfl)) S0 ?_
   try simp only[Act.put,sAp,sA0,sAs]
   refine hfRdy 6 (by kernel_rfl) rfl fun K hK=>?_
   simp only[obCells]
   go_simp
   have hb7:Below wd.heap.size wd (wd.alloc (.cells #[.string (txt o.name),.int .u32 o.key,.slice AU o.uses.length cU,.slice AD o.descs.length cD,.int .i64 o.data,.string (txt o.strings),.slice AC o.code.length cC,.slice AE o.entries.length cE,.int .i64 o.calls,.int .i64 o.places] obT)):=(Below.refl _ _).alloc (Nat.le_refl _) _
   have hA7:=zh (hA6.out.below hb7)
   have hK7:=zh (hK6.out.trans (LdK.of_below hb7))
   have hB7:=zh (hB6.out.trans (hb7.mono hBw))
   have L7:=zh (L6.out.below hb7 L6.out.lt)
   have hX7:=zh (hX6.out.below hb7)
   have N1:=ld_news (w:=wd) (t:=obT) (cs:=#[.string (txt o.name),.int .u32 o.key,.slice AU o.uses.length cU,.slice AD o.descs.length cD,.int .i64 o.data,.string (txt o.strings),.slice AC o.code.length cC,.slice AE o.entries.length cE,.int .i64 o.calls,.int .i64 o.places])
   have hBw7:B≤(wd.alloc (.cells #[.string (txt o.name),.int .u32 o.key,.slice AU o.uses.length cU,.slice AD o.descs.length cD,.int .i64 o.data,.string (txt o.strings),.slice AC o.code.length cC,.slice AE o.entries.length cE,.int .i64 o.calls,.int .i64 o.places] obT)).heap.size:=Nat.le_trans hBw hb7.size
   have S1:=And.intro (hA7.out.blk.cell 3) L7.out
   refine hK.out _ _ (fun _=>S1) ?_
   clear hK K S0 hA6 hK6 hB6 L6 hX6 hb7 hBw
   try simp only[Act.put,sAp,sA0,sAs]
   generalize wd.heap.size=g9 at *
   generalize wd.alloc (.cells #[.string (txt o.name),.int .u32 o.key,.slice AU o.uses.length cU,.slice AD o.descs.length cD,.int .i64 o.data,.string (txt o.strings),.slice AC o.code.length cC,.slice AE o.entries.length cE,.int .i64 o.calls,.int .i64 o.places] obT)=w7 at *
   have hxl:xs1.length≤16:=by have h1:=hA7.out.ok.few;have h2:=hA7.out.ok.high;rw[hA7.out.objs,List.length_map] at h1;omega
   refine hfRdy 7 (by kernel_rfl) rfl fun K hK=>?_
   refine step_own_at w7 rfl (.tmp 101) (.tmp 103) 96 obT rfl 10 160 (.agg #[.string ⟨#[]⟩,.int .u32 0,.slice none 0 0,.slice none 0 0,.int .i64 0,.string ⟨#[]⟩,.slice none 0 0,.slice none 0 0,.int .i64 0,.int .i64 0]) Tryz.underlying96 ld_ob_info rfl (by omega) B hBw7 vO1 xs1.length (xs1.flatMap OM.cells) hA7.out.row ⟨g9,0,none⟩ 1 1 (#[.string (txt o.name),.int .u32 o.key,.slice AU o.uses.length cU,.slice AD o.descs.length cD,.int .i64 o.data,.string (txt o.strings),.slice AC o.code.length cC,.slice AE o.entries.length cE,.int .i64 o.calls,.int .i64 o.places]:Array Value).toList rfl rfl rfl N1 (by simp[Value.oneCell']) (by simp only[maxLen];omega) (by omega) ?_
   intro v' w8 ho hg hat
   obtain⟨A9,k9,rfl⟩:=own_slice ho
   obtain⟨c9,f9,hAn,hKn⟩:=LdAt.push_ (x:=⟨o,.slice AU o.uses.length cU,.slice AD o.descs.length cD,.slice AC o.code.length cC,.slice AE o.entries.length cE,dv⟩) hA7.out hX7.out ⟨hgood.1,by rw[hgood.2.1];exact hgood.2.2⟩ ho hg hat
   have L8:=L7.out.grown hg (fun e=>hr9h.out _ e.symm rfl)
   have hAnh:=zh hAn
   have hKnh:=zh (hK7.out.trans hKn)
   have hB8:=zh ((hB7.out.grown hg hBw7 (fun q hq=>(hA7.out.row.lt q hq).1)).setCell (p:=⟨lp,3,none⟩) hA7.out.lpB (.slice A9 (xs1.length+1) k9))
   have L9:=zh (L8.far (p:=⟨lp,3,none⟩) (fun e=>by subst e;exact L7.out.ne_ hA7.out.blk (by decide) rfl) (.slice A9 (xs1.length+1) k9))
   have S2:=And.intro c9 L8
   refine hK.out _ _ (fun _=>S2) ?_
   clear hK K S1 ho hg hat hAn hKn N1
   try simp only[Act.put,sAp,sA0,sAs]
   refine hfRdy 8 (by kernel_rfl) rfl fun K hK=>?_
   go_simp
   refine hK.out _ _ (fun _=>S2) ?_
   clear hK K
   try simp only[Act.put,sAp,sA0,sAs]
   refine hfRdy 9 (by kernel_rfl) rfl fun K hK=>?_
   go_simp
   refine hK.out _ _ (fun _=>S2) ?_
   clear hK K
   try simp only[Act.put,sAp,sA0,sAs]
   refine hfRdy 10 (by kernel_rfl) rfl fun K hK=>?_
   go_simp
   refine hK.out _ _ (fun h=>absurd rfl h) ?_
   clear hK K S2 c9 f9 L8
   try simp only[Act.put,sAp,sA0,sAs]
   refine wpAnyF_done (by kernel_rfl) ?_ _
   generalize w8.setCell ⟨lp,3,none⟩ (.slice A9 (xs1.length+1) k9)=wa at *
   go_upto_region 18 with fail
   have hdr:Below wa.heap.size wa wa.drew:=(Below.refl _ _).drew
   have hA10:=zh (hAnh.out.below hdr)
   have hK10:=zh (hKnh.out.trans (LdK.of_below hdr))
   have hB10:=zh (hB8.out.trans (hdr.mono (Nat.le_trans (Nat.le_trans hBs hB5.out.size) hB8.out.size)))
   have L10:Hid (Blk wa.drew g8 obT (obCells o (.slice AU o.uses.length cU) (.slice AD o.descs.length cD) (.slice AC o.code.length cC) (.slice AE o.entries.length cE))):=zh (L9.out.below hdr L9.out.lt)
   have c1:wa.drew.cell? ⟨lp,1,none⟩=some (.map (some mb)):=hA10.out.blk.cell 1
   have c3:wa.drew.cell? ⟨lp,3,none⟩=some (.slice A9 (xs1.length+1) k9):=hA10.out.blk.cell 3
   have hxs9:=zh (show (xs1.length:Int)+1=((s1.objs++[o]).length:Int) by rw[hA7.out.objs];simp)
   have hwf:(Lit.int .i64 ((xs1.length:Int)+1)).wf=true:=ld_wf64 (by omega) (by omega)
   have hnb1:n1+1≤maxLen:=by have:=hA7.out.few;have h2:=hA7.out.ok.high;simp only[maxLen];omega
   clear hdr hAnh hKnh hB8 L9 hA7 hX7 L7
   refine region_drew 10 (by kernel_rfl) (by kernel_rfl) ?_
   simp only[List.take_succ_cons,List.take_zero,List.drop_succ_cons,List.drop_zero]
   repeat still_step
   refine wpStill_nil ?_
   generalize wa.drew=wb at *
   refine wpList_mapUpdate_own _ rfl (.tmp 110) (.tmp 111) (.tmp 116) 95 rfl 9 3 str_keyed Tryz.underlying95 (plainElem Tryz.prog 3) mb n1 D1 rfl hA10.out.map hnb1 (.string (txt o.name)) (.int .i64 ((xs1.length:Int)+1)) (skey o.name) rfl rfl (keyOf_txt hnl) (snum ((xs1.length:Int)+1)) [] (plainElem_int Tryz.underlying3 hwf) ?_
   intro w12 hm12 hg12
   have hle:(xs1.length:Int)+1≤((s1.objs++[o]).length:Int):=Int.le_of_eq hxs9.out
   obtain⟨hA12,hK12⟩:=LdAt.put_ (c:=c) hA10.out hm12 hg12 hle
   have hA12h:=zh hA12
   have hK12h:=zh (hK5h.out.trans (hK10.out.trans hK12))
   have hB12:=zh ((hB5.out.trans hB10.out).grown hg12 (Nat.le_trans hBs (hB5.out.trans hB10.out).size) (fun q hq=>by
    have hq:=Option.some.inj hq
    subst hq
    exact hA10.out.mbB))
   have k1:w12.cell? ⟨g8,1,none⟩=some (.int .u32 o.key):=(L10.out.grown hg12 (fun e=>hA10.out.map.blk L10.out (Option.some.inj e))).cell 1
   clear hm12 hg12 hA12 hK12 hA10 hK10 hB10 L10 hle hwf hnb1 hxl
   try clear c1 c3
   go_wp2_with fail
   go_ret
   rw[hush.out]
   have hdn:s1.done o.name o={ pos:=fun t=>if t=o.name then (xs1.length:Int)+1 else s1.pos t,begun:=s1.begun,objs:=s1.objs++[o] }:=by
    unfold LS.done
    rw[hxs9.out]
   show LdEnd c d B lp mb sp w vO (.ok (o.key,s1.done o.name o)) _ _
   rw[hdn]
   exact⟨rfl,hB12.out,n1+1,D1.put (skey o.name) (snum ((xs1.length:Int)+1)),.slice A9 (xs1.length+1) k9,xs1++[⟨o,.slice AU o.uses.length cU,.slice AD o.descs.length cD,.slice AC o.code.length cC,.slice AE o.entries.length cE,dv⟩],hA12h.out,hK12h.out⟩
theorem ld_load (G:Files) (B sp:Nat) (W0:World) (hG:GetOk G B sp W0):∀ f,LoadsBy G B sp W0 f
 | 0=>fun c d lp mb n D vO xs s w h _ _ h17 name _=>absurd h17 (by have:=h.ok.high;push_cast;omega)
 | f+1=>fun c d lp mb n D vO xs s w h hB hBs h17 name hn=>by
  have IH:=ld_load G B sp W0 hG f
  by_cases p1:0<s.pos name
  ·exact ld_done G B sp W0 hG f c d lp mb n D vO xs s w h hB hBs name hn p1
  by_cases p2:s.pos name<0
  ·exact ld_loop G B sp W0 hG f c d lp mb n D vO xs s w h hB hBs name hn p2
  have p0:s.pos name=0:=by omega
  by_cases hb:s.begun+1≤16
  case neg=>exact ld_many G B sp W0 hG f c d lp mb n D vO xs s w h hB hBs name hn p0 hb
  cases hg:G (name++dotObj) with
  | none=>exact ld_miss G B sp W0 hG f c d lp mb n D vO xs s w h hB hBs name hn p0 hb hg
  | some tx=>
   cases hd:decO tx with
   | none=>exact ld_bad G B sp W0 hG f c d lp mb n D vO xs s w h hB hBs name hn p0 hb tx hg hd
   | some o=>
    by_cases hne:o.name=name
    ·exact ld_uses G B sp W0 hG f c d lp mb n D vO xs s w h hB hBs name hn IH (by push_cast at h17 ⊢;omega) p0 hb tx hg o hd hne
    ·exact ld_named G B sp W0 hG f c d lp mb n D vO xs s w h hB hBs name hn p0 hb tx hg o hd hne
end Go.Proofs.YtceflhffilldeaaGreat
