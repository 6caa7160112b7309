/-
  Joined: ZFill.
-/
import Derived.Lib.LazyBuf
import Derived.Test.YtceflhffilldeaaGreatZLdLoad
set_option linter.unusedVariables false
set_option linter.unusedSimpArgs false
set_option maxRecDepth 100000
set_option maxHeartbeats 16000000
namespace Go.Proofs.YtceflhffilldeaaGreat
open Go.RowKit Go.Maps Go.WideMaps
theorem pArr:ArrKey Tryz.prog 205 3 3:=⟨Tryz.underlying205,by kernel_rfl,by kernel_rfl,by kernel_rfl⟩
theorem pSize:∃ m,Tryz.prog.types.size=m+1:=⟨Tryz.prog.types.size-1,by kernel_rfl⟩
theorem pKeyed:Keyed Tryz.prog 205:=Keyed.of_law pArr.law
def pkey (a b c:Int):Lit:=akey .i64 [a,b,c]
def In64 (a:Int):Prop:=-9223372036854775808≤a∧a≤9223372036854775807
theorem in64_zero:In64 0:=⟨by decide,by decide⟩
theorem wf64 {a:Int} (h:In64 a):(Lit.int .i64 a).wf=true:=by
 simp only[In64] at h
 simp[Lit.wf,IntKind.min,IntKind.max,IntKind.bits,IntKind.signed]
 omega
theorem wf64_iff {a:Int} (h:(Lit.int .i64 a).wf=true):In64 a:=by
 simp[Lit.wf,IntKind.min,IntKind.max,IntKind.bits,IntKind.signed] at h
 exact⟨by omega,by omega⟩
theorem wf3 {a b c:Int} (ha:In64 a) (hb:In64 b) (hc:In64 c):∀ x∈[a,b,c],(Lit.int .i64 x).wf=true:=by
 intro x hx
 simp only[List.mem_cons,List.mem_nil_iff,or_false] at hx
 rcases hx with rfl | rfl | rfl
 ·exact wf64 ha
 ·exact wf64 hb
 ·exact wf64 hc
theorem keyOf_pkey {a b c:Int} (ha:In64 a) (hb:In64 b) (hc:In64 c):keyOf Tryz.prog 205 (.agg #[.int .i64 a,.int .i64 b,.int .i64 c])=some (pkey a b c):=
 keyOf_arr pArr Tryz.underlying3 pSize [a,b,c] rfl (wf3 ha hb hc)
def PMap (w:World) (m:Value) (n:Nat) (D:DataW Unit):Prop:=
 (m=.map none∧D=.map [])∨∃ b,m=.map (some b)∧w.ownsMap Tryz.prog 205 (plainElem Tryz.prog 3) b n D
def pnum (a:Int):DataW Unit:=.lit (.int .i64 a)
def pval (D:DataW Unit) (a b c:Int):Int:=match D.atKey (pkey a b c) (pnum 0) with | .lit (.int _ x)=>x | _=>0
def phas (D:DataW Unit) (a b c:Int):Bool:=has D (pkey a b c)
theorem iZero (w:World):(zeroValue 3).run Tryz.prog w=.ok (.int .i64 0) w:=by kernel_rfl
section
variable {w w':World} {m:Value} {n:Nat} {D:DataW Unit} {a b c:Int}
theorem PMap.look (h:PMap w m n D) (ha:In64 a) (hb:In64 b) (hc:In64 c) :
  (Instr.lookup 154 m (.agg #[.int .i64 a,.int .i64 b,.int .i64 c]) true).run Tryz.prog w=.ok (.tuple #[.int .i64 (pval D a b c),.bool (phas D a b c)]) w∧In64 (pval D a b c):=by
 have hk:=keyOf_pkey ha hb hc
 rcases h with ⟨rfl,rfl⟩ | ⟨bl,rfl,hown⟩
 ·exact⟨Maps.look_nil (P:=Tryz.prog) true pKeyed Tryz.underlying154 (iZero w) hk,in64_zero⟩
 ·obtain⟨v,ps,hrun,hv⟩:=hown.look_ok pKeyed Tryz.underlying154 (iZero w) (plainElem_int Tryz.underlying3 (q:=.i64) (a:=0) (by decide)) hk
  obtain⟨t,rfl,hz,hw⟩:=plainElem_int_inv Tryz.underlying3 hv
  have h1:D.atKey (pkey a b c) (pnum 0)=.lit (.int .i64 t):=(Prod.mk.inj hz).1
  have h2:pval D a b c=t:=by rw[pval,h1]
  rw[h2]
  exact⟨hrun,wf64_iff hw⟩
def pblock:Value→Option Nat | .map (some b)=>some b | _=>none
theorem PMap.drew (h:PMap w m n D):PMap w.drew m n D:=h
theorem PMap.kept {S:Nat→Prop} (h:PMap w m n D) (hk:Kept S w w') (hS:∀ b,pblock m=some b→S b):PMap w' m n D:=by
 rcases h with ⟨rfl,rfl⟩ | ⟨b,rfl,es,clock,hb,F,hs,hD⟩
 ·exact Or.inl ⟨rfl,rfl⟩
 ·exact Or.inr ⟨b,rfl,es,clock,(hk.block b (hS b rfl)).trans hb,F,hs,hD⟩
theorem PMap.lt (h:PMap w m n D) {b:Nat} (hb:pblock m=some b):b<w.heap.size:=by
 rcases h with ⟨rfl,rfl⟩ | ⟨b',rfl,hown⟩
 ·cases hb
 ·injection hb with e;subst e;exact hown.lt
theorem PMap.below (h:PMap w m n D) (hb:Below w.heap.size w w'):PMap w' m n D:=h.kept ((Kept.refl (fun k=>k<w.heap.size) w).below hb fun k h=>h) fun b e=>h.lt e
theorem PMap.tidy (h:PMap w m n D):Tidy D:=by
 rcases h with ⟨rfl,rfl⟩ | ⟨b',rfl,hown⟩
 ·exact tidy_empty
 ·obtain⟨es,e,h1,h2⟩:=hown.canon pKeyed
  exact⟨es,e,apart_of_rising h1⟩
end
end Go.Proofs.YtceflhffilldeaaGreat
namespace Go.Proofs.YtceflhffilldeaaGreat
open Go.RowKit
theorem cl_row_src {q:IntKind} {w:World} {ad:Addr} {l:List Int} (h:∀ k,k<l.length→w.cell? (ad.add k)=some (.int q (l.getD k 0))):∀ j u,(l.map (Value.int q))[j]?=some u→w.cell? (ad.add j)=some u:=by
 intro j u hu
 rw[List.getElem?_map] at hu
 by_cases hj:j<l.length
 ·rw[List.getElem?_eq_getElem hj] at hu
  have:=h j hj
  rw[this]
  simpa [List.getD,hj] using hu
 ·rw[List.getElem?_eq_none (by omega)] at hu;cases hu
theorem cl_ints_one (q:IntKind) (xs:List Int):∀ u∈(xs.map (Value.int q)),u.oneCell'=true:=by
 intro u hu
 simp only[List.mem_map] at hu
 obtain⟨x,_,rfl⟩:=hu
 rfl
theorem cl_nothing {P:Program} (w:World) (t ty e:TypeId) (c g:Nat) (ht:P.underlying t=some (.slice e)) (i:TypeInfo) (hi:P.info? e=some i) (hh:∃ cur t' fr,w.heap[g]?=some (.cells cur t' fr)) :
  (Builtin.append_ #[t,t] ty #[.slice (some ⟨g,0,none⟩) 0 0,.slice none 0 c]).run P w=.ok (.slice (some ⟨g,0,none⟩) 0 0) w:=by
 simp[Builtin.append_,run_underlying ht,sizeOf,typeInfo,hi,Builtin.lenOf,Builtin.firstCells,storeCells]
theorem wp_clone {P:Program} {o:Oper} {a:Act} {K:Act→World→Prop} {Q:Exit→Act→World→Prop} (W:World) (s x:Operand) (t e:TypeId)
  (hop:o.op=.call { callee:=.builtin .append,args:=#[s,x],argTypes:=#[t,t] }) (q:IntKind) (bytes:Nat) (ht:P.underlying t=some (.slice e))
  (info:(P.info? e).map (fun i=>(i.zero,i.size,i.bytes))=some (some (.int q 0),1,bytes)) (hb:bytes≤8) (l:List Int) (v:Value) (hs:a.eval s=.slice (some ⟨W.heap.size,0,none⟩) 0 0) (hx:a.eval x=v) (hr:Row q W v l) (hl:l.length≤1000000)
  (hK:∀ g c w2,w2.ownsRow W.heap.size e 1 (.slice (some ⟨g,0,none⟩) l.length c) l.length (l.map (.int q))→Below W.heap.size W w2→W.heap.size≤g→g<w2.heap.size→K (a.put o.dst (.slice (some ⟨g,0,none⟩) l.length c)) w2):o.wp P a (W.alloc (.cells #[] e)) K Q:=by
 have own0:(W.alloc (.cells #[] e)).ownsRow W.heap.size e 1 (.slice (some ⟨W.heap.size,0,none⟩) 0 0) 0 []:=⟨rfl,Or.inr ⟨W.heap.size,0,_,rfl,Nat.le_refl _,heap_alloc_new W _,Nat.le_refl _,by decide,rfl,rfl⟩⟩
 have B1:Below W.heap.size W (W.alloc (.cells #[] e)):=(Below.refl _ _).alloc (Nat.le_refl _) _
 obtain⟨i0,hi0,hz0,hz1,hz2⟩:=info_parts info
 obtain⟨hm,A,c,rfl,hc⟩:=hr
 rcases A with _ | ad
 ·have h0:l=[]:=by
   cases l with
   | nil=>rfl
   | cons x xs=>obtain⟨ad,h,_⟩:=hc 0 (by simp);cases h
  subst h0
  have HN:=fun ty=>cl_nothing (P:=P) (W.alloc (.cells #[] e)) t ty e c W.heap.size ht i0 hi0 ⟨_,_,_,heap_alloc_new W _⟩
  unfold Oper.wp execOp
  simp only[hop,resolve,invoke,builtin,Sem.run_bind,Sem.run_pure,Result.andThen_ok,List.map_toArray,List.map_cons,List.map_nil,hs,hx,List.length_nil,HN]
  exact(hK _ _ _ own0 B1 (Nat.le_refl _) (by simp))
 ·refine wp_append_own (W.alloc (.cells #[] e)) s x t hop W.heap.size e i0 _ 1 bytes ht hi0 hz0 hz1 hz2 rfl (by omega) _ 0 [] hs own0 ad l.length c (l.map (Value.int q)) hx (by simp)
   (cl_row_src (fun k hk=>by obtain⟨ad',e1,ha,hxx⟩:=hc k hk;injection e1 with e1;subst e1;exact(World.cell?_alloc_lt W _ _ (by rw[block_add];exact ha)).trans hxx)) (cl_ints_one _ _) (by simp only[maxLen];omega) (by
    have:(0+l.length)*bytes≤(0+l.length)*8:=Nat.mul_le_mul_left _ hb
    omega) (by simp) ?_
  intro v2 w2 ho2 hg2 hn2
  simp only[Nat.zero_add,List.nil_append] at ho2
  have B2:Below W.heap.size W w2:=B1.grown hg2 (by simp) (fun k hk=>by have:=own0.lt k hk;exact this.1)
  rcases ho2.2 with ⟨rfl,h2⟩ | ⟨g,cap,cur,rfl,hg',hh,r⟩
  ·cases hn2.1 rfl
   rename_i h3 h4
   cases h3
  ·exact hK g cap w2 ho2 B2 hg' (Array.getElem?_eq_some_iff.1 hh).1
theorem wpList_clone {P:Program} {ops:Array Oper} {rest:List Oper} {o:Oper} {a:Act} {Q:Exit→Act→World→Prop} (W:World) (hg:o.guard=none) (s x:Operand) (t e:TypeId)
  (hop:o.op=.call { callee:=.builtin .append,args:=#[s,x],argTypes:=#[t,t] }) (q:IntKind) (bytes:Nat) (ht:P.underlying t=some (.slice e))
  (info:(P.info? e).map (fun i=>(i.zero,i.size,i.bytes))=some (some (.int q 0),1,bytes)) (hb:bytes≤8) (l:List Int) (v:Value) (hs:a.eval s=.slice (some ⟨W.heap.size,0,none⟩) 0 0) (hx:a.eval x=v) (hr:Row q W v l) (hl:l.length≤1000000)
  (hK:∀ g c w2,w2.ownsRow W.heap.size e 1 (.slice (some ⟨g,0,none⟩) l.length c) l.length (l.map (.int q))→Below W.heap.size W w2→W.heap.size≤g→g<w2.heap.size→wpList P ops Q rest (a.put o.dst (.slice (some ⟨g,0,none⟩) l.length c)) w2):wpList P ops Q (o::rest) a (W.alloc (.cells #[] e)):=by
 exact wpList_plain hg fun K' hK'=>wp_clone W s x t e hop q bytes ht info hb l v hs hx hr hl fun g c w2 h1 h2 h3 h4=>hK' _ _ (hK g c w2 h1 h2 h3 h4)
theorem clone_u32:(Tryz.prog.info? 37).map (fun i=>(i.zero,i.size,i.bytes))=some (some (.int .u32 0),1,4):=by kernel_rfl
theorem slices_clone (l:List Int) (v:Value) (w:World) (hr:Row .u32 w v l) (hl:l.length≤1000000) :
  Calls Tryz.prog 113 #[v] w fun e w'=>∃ u,e=.returned u∧w'.ownsRow w.heap.size 37 1 u l.length (l.map (.int .u32))∧Below w.heap.size w w':=by
 have hr':=zh hr
 obtain⟨hm,A,c,rfl,hc⟩:=hr
 rcases A with _ | ad
 ·have h0:l=[]:=by
   cases l with
   | nil=>rfl
   | cons x xs=>obtain⟨ad,h,_⟩:=hc 0 (by simp);cases h
  subst h0
  clear hc hr' hm hl
  have qN:∀ W:World,(binOp .eql 30 (.slice none 0 c) (.slice none 0 0)).run Tryz.prog W=.ok (.bool true) W:=fun W=>run_eql_slice_nil W _ _ none 0 c Tryz.underlying30
  go_enter Tryz.func113,Tryz.ntmps113
  go_wp2_with fail
  go_ret
  exact⟨_,rfl,World.ownsRow_nil _ _ _ _,Below.refl _ _⟩
 ·clear hc
  have qN:∀ W:World,(binOp .eql 30 (.slice (some ad) l.length c) (.slice none 0 0)).run Tryz.prog W=.ok (.bool false) W:=fun W=>run_eql_slice_nil W _ _ (some ad) l.length c Tryz.underlying30
  go_enter Tryz.func113,Tryz.ntmps113
  go_wp2_with (at_builtin;refine wpList_clone w rfl (.tmp 5) (.tmp 6) 30 37 rfl .u32 4 Tryz.underlying30 clone_u32 (by omega) l _ rfl rfl hr'.out hl ?_;intro g c2 w2 ho2 B2 _ _;have ho2:=zh ho2)
  go_ret
  exact⟨_,rfl,ho2.out,B2⟩
end Go.Proofs.YtceflhffilldeaaGreat
namespace Go.Proofs.YtceflhffilldeaaGreat
open Go.RowKit Bw
def Fx.flist (code:List Int) (head at_:Int) (D:DataW Unit):List Int:=(Fx.fill code head at_ (pval D) (phas D)).getD []
def Fx.ferr (code:List Int) (head at_:Int) (D:DataW Unit):Int:=if (Fx.fill code head at_ (pval D) (phas D)).isSome=true then 0 else 220
theorem ferr_none {code:List Int} {head at_:Int} {D:DataW Unit} (h:Fx.fill code head at_ (pval D) (phas D)=none):Fx.ferr code head at_ D=220∧Fx.flist code head at_ D=[]:=by
 rw[Fx.ferr,Fx.flist,h];exact⟨rfl,rfl⟩
theorem ferr_some {code l:List Int} {head at_:Int} {D:DataW Unit} (h:Fx.fill code head at_ (pval D) (phas D)=some l):Fx.ferr code head at_ D=0∧Fx.flist code head at_ D=l:=by
 rw[Fx.ferr,Fx.flist,h];exact⟨rfl,rfl⟩
def FillEnd (base:Nat) (code:List Int) (head at_:Int) (D:DataW Unit) (e:Ending) (w:World):Prop:=
 ∃ v,e=.returned (.tuple #[v,.int .i64 (Fx.ferr code head at_ D)])∧w.ownsRow base 37 1 v (Fx.flist code head at_ D).length ((Fx.flist code head at_ D).map (Value.int .u32))
theorem fillEnd_none {base:Nat} {code:List Int} {head at_:Int} {D:DataW Unit} (w:World) (h:Fx.fill code head at_ (pval D) (phas D)=none):FillEnd base code head at_ D (.returned (.tuple #[.slice none 0 0,.int .i64 220])) w:=by
 obtain⟨h1,h2⟩:=ferr_none h
 rw[FillEnd,h1,h2]
 exact⟨_,rfl,World.ownsRow_nil _ _ _ _⟩
theorem fillEnd_some {base:Nat} {code l:List Int} {head at_:Int} {D:DataW Unit} {w:World} {v:Value} (h:Fx.fill code head at_ (pval D) (phas D)=some l) (hown:w.ownsRow base 37 1 v l.length (l.map (Value.int .u32))):FillEnd base code head at_ D (.returned (.tuple #[v,.int .i64 0])) w:=by
 obtain⟨h1,h2⟩:=ferr_some h
 rw[FillEnd,h1,h2]
 exact⟨_,rfl,hown⟩
theorem own_from {w:World} {b b':Nat} {e:TypeId} {size n:Nat} {v:Value} {xs:List Value} (h:w.ownsRow b e size v n xs) (hb:b'≤b):w.ownsRow b' e size v n xs:=by
 refine⟨h.1,?_⟩
 rcases h.2 with h2 | ⟨g,cap,cur,hv,hg,hh,r⟩
 ·exact Or.inl h2
 ·exact Or.inr ⟨g,cap,cur,hv,Nat.le_trans hb hg,hh,r⟩
theorem fills_cons (code:List Int) (at_:Int) (V:Int→Int→Int→Int) (H:Int→Int→Int→Bool) (l out:List Int) (k:Nat) (hk:k<l.length) :
  Fx.fills code at_ V H (l.drop k) out=(if H (Fx.sort (code.getD (l.getD k 0).toNat 0)) (Fx.mod (code.getD (l.getD k 0).toNat 0)) (code.getD ((l.getD k 0).toNat+1) 0)=true∧Fx.okTo (V (Fx.sort (code.getD (l.getD k 0).toNat 0)) (Fx.mod (code.getD (l.getD k 0).toNat 0)) (code.getD ((l.getD k 0).toNat+1) 0))=true then
   Fx.fills code at_ V H (l.drop (k+1)) ((out.set (l.getD k 0).toNat (Fx.ins1 (code.getD (l.getD k 0).toNat 0) (at_+l.getD k 0) (V (Fx.sort (code.getD (l.getD k 0).toNat 0)) (Fx.mod (code.getD (l.getD k 0).toNat 0)) (code.getD ((l.getD k 0).toNat+1) 0))).E).set ((l.getD k 0).toNat+1) (Fx.ins2 (code.getD (l.getD k 0).toNat 0) (V (Fx.sort (code.getD (l.getD k 0).toNat 0)) (Fx.mod (code.getD (l.getD k 0).toNat 0)) (code.getD ((l.getD k 0).toNat+1) 0))).E)
  else none):=by
 rw[List.drop_eq_getElem_cons hk,Fx.fills]
 simp only[List.getD_eq_getElem?_getD,List.getElem?_eq_getElem hk,Option.getD_some]
theorem fc_and65535 (n:Int):bits .and .i64 n 65535=n % 65536:=by
 have h127:(BitVec.ofInt 64 65535).toNat=2 ^ 16-1:=by decide
 have key:(BitVec.ofInt 64 n &&& BitVec.ofInt 64 65535).toNat=(n % ((2 ^ 64:Nat):Int)).toNat % 2 ^ 16:=by
  rw[BitVec.toNat_and,BitVec.toNat_ofInt,h127,Nat.and_two_pow_sub_one_eq_mod]
 show IntKind.i64.wrap ((BitVec.ofInt 64 n &&& BitVec.ofInt 64 65535).toNat:Nat)=n % 65536
 rw[key,IntKind.wrap_i64]
 omega
theorem ins_fits {x:Ins} (h:x.good=true):x.fits:=by
 have hr:=Ins.good_range x h
 have hi:-9223372036854775808≤x.im∧x.im≤9223372036854775807:=by
  obtain⟨form,u,v,a,b,c,op,im⟩:=x
  simp only at hr ⊢
  have h4:form=0∨form=1∨form=2∨form=3:=by omega
  rcases h4 with rfl | rfl | rfl | rfl
  ·have:=Ins.good_im0 u v a b c op im h;omega
  ·have:=Ins.good_im1 u v a b c op im h;omega
  ·have:=Ins.good_im2 u v a b c op im h;omega
  ·have:=Ins.good_im3 u v a b c op im h;omega
 unfold Ins.fits
 omega
theorem fix_fill (code:List Int) (head at_:Int) (cv m:Value) (n:Nat) (D:DataW Unit) (w:World) (hr:Row .u32 w cv code) (hu:U32s code) (hs:code.length≤65536) (hm:PMap w m n D) (h0:-9223372036854775808≤head) (h1:head≤9223372036854775807) (a0:-9223372036854775808≤at_) (a1:at_≤9223372036854775807) :
  Calls Tryz.prog 69 #[cv,.int .i64 head,.int .i64 at_,m] w fun e w'=>FillEnd w.heap.size code head at_ D e w'∧Below w.heap.size w w':=by
 have hr':=zh hr
 obtain⟨hm_,A,c,rfl,-⟩:=hr
 have hu':=zh hu
 have hm':=zh hm
 clear hu hm
 go_enter Tryz.func69,Tryz.ntmps69
 go_wp2_with fail
 refine(fix_chain code head _ _ hr'.out hu'.out hs h0 h1).mono ?_
 rintro e w1 ⟨⟨v1,rfl,hown1⟩,B1⟩
 cases hch:Fx.chain code head with
 | none=>
  obtain⟨e1,e2⟩:=cerr_none hch
  rw[e1]
  have hres:=zh (show Fx.fill code head at_ (pval D) (phas D)=none by rw[Fx.fill,hch])
  clear e1 e2 hown1
  go_wp2_with fail
  go_ret2
  exact⟨fillEnd_none _ hres.out,B1⟩
 | some l=>
  obtain⟨e1,e2⟩:=cerr_some hch
  rw[e1]
  rw[e2] at hown1
  have hgood:=zh (Fx.chain_good hch)
  obtain⟨-,A1,c1,rfl,hl⟩:=row_of_own hown1
  have hl:=zh hl
  have hown1:=zh hown1
  have hllen:=hgood.out.len
  have hfe:Hid (Fx.fill code head at_ (pval D) (phas D)=if Fx.mayAt code.length at_=true then Fx.fills code at_ (pval D) (phas D) l code else none):=zh (by rw[Fx.fill,hch])
  clear e1 e2 hch
  cases hmay:Fx.mayAt code.length at_
  ·have hres:=zh (show Fx.fill code head at_ (pval D) (phas D)=none by rw[hfe.out,hmay];rfl)
   have hno:at_<0∨(0≤at_∧65536<at_)∨(0≤at_∧at_≤65536∧65536-at_<(code.length:Int)):=by
    have:¬ (0≤at_∧at_≤65536∧(code.length:Int)≤65536-at_):=by simpa [Fx.mayAt] using hmay
    omega
   clear hmay hfe
   rcases hno with h | ⟨h,h'⟩ | ⟨h,h',h''⟩
   ·go_wp2_with fail
    go_ret2
    exact⟨fillEnd_none _ hres.out,B1⟩
   ·go_wp2_with fail
    go_ret2
    exact⟨fillEnd_none _ hres.out,B1⟩
   ·go_wp2_with fail
    go_ret2
    exact⟨fillEnd_none _ hres.out,B1⟩
  ·rw[hmay,if_pos rfl] at hfe
   obtain⟨m0,m1,m2⟩:0≤at_∧at_≤65536∧(code.length:Int)≤65536-at_:=by simpa [Fx.mayAt] using hmay
   clear hmay
   go_wp2_with fail
   refine(slices_clone code _ _ (hr'.out.below B1) (by omega)).mono ?_
   rintro e w2 ⟨v2,rfl,hown2,B2⟩
   obtain⟨-,A2,c2,rfl,-⟩:=row_of_own hown2
   have hown2:=zh hown2
   go_wp2_with fail
   go_loopw [50] (fun i wr=>∃ (k:Nat) (out:List Int),i=.int .i64 k∧k≤l.length∧out.length=code.length∧Hid (wr.ownsRow w1.heap.size 37 1 (.slice A2 code.length c2) code.length (out.map (Value.int .u32)))∧Below w1.heap.size w1 wr∧Hid (Fx.fills code at_ (pval D) (phas D) (l.drop k) out=Fx.fill code head at_ (pval D) (phas D))) (fun i _=>l.length-(intOf i).toNat)
   case atStart=>exact⟨0,code,rfl,by omega,rfl,hown2,B2,zh (by rw[hfe.out];rfl)⟩
   case round=>
    obtain⟨k,out,rfl,hk,hol,hown,hb,hf⟩:=hrel
    clear hfe hown2 B2
    have hol:=zh hol
    have Bw:=B1.trans (hb.mono B1.size)
    by_cases hlt:(k:Int)<(l.length:Int)
    ·have hklt:k<l.length:=by omega
     obtain⟨g1,g2,g3,-⟩:=hgood.out k hklt
     have hcons:=zh (hf.out.symm.trans (fills_cons code at_ (pval D) (phas D) l out k hklt))
     obtain⟨al,rfl,hal,hcl⟩:=hl.out k hklt
     have hcl:wr.cell? (al.add k)=some (.int .i64 (l.getD k 0)):=(hb.cell (p:=al.add k) (by rw[block_add];exact hal)).trans hcl
     clear hl hown1 hf
     generalize l.getD k 0=p at *
     obtain⟨pn,rfl⟩:∃ pn:Nat,p=pn:=⟨p.toNat,by omega⟩
     rw[Int.toNat_natCast] at g3
     simp only[Int.toNat_natCast] at hcons
     obtain⟨-,A3,c3,e3,hc3⟩:=hr'.out.below Bw
     injection e3 with e3 _ e4
     subst e3 e4
     obtain⟨ad,rfl,had,hcx⟩:=hc3 pn (by omega)
     obtain⟨ad',e5,-,hcy⟩:=hc3 (pn+1) (by omega)
     injection e5 with e5
     subst e5
     clear hc3
     have hx:=hu'.out pn (by omega)
     have hy:=hu'.out (pn+1) (by omega)
     have FP:=fun W=>zh (fix_parts (code.getD pn 0) W hx.1 hx.2)
     have hrb:=Fx.reg_bd _ hx
     have hsb:=Fx.sort_bd (code.getD pn 0)
     have hmb:=Fx.mod_bd (code.getD pn 0)
     have hi1:=fun tz h=>zh (Fx.ins1_good (code.getD pn 0) (at_+pn) tz hx h (by omega))
     have hi2:=fun tz h=>zh (Fx.ins2_good (code.getD pn 0) tz hx h)
     have hi1d:∀ tz,Fx.ins1 (code.getD pn 0) (at_+pn) tz=if Fx.sort (code.getD pn 0)=0 then ⟨3,true,true,7,0,0,0,tz-(at_+pn)-1⟩ else ⟨1,true,false,Fx.reg (code.getD pn 0),0,0,0,4*tz / 65536⟩:=fun tz=>rfl
     have hi2d:∀ tz,Fx.ins2 (code.getD pn 0) tz=if Fx.sort (code.getD pn 0)=0 then Ins.zero else ⟨1,false,false,Fx.reg (code.getD pn 0),Fx.reg (code.getD pn 0),0,6,4*tz % 65536⟩:=fun tz=>rfl
     have LK:=fun W hW=>zh ((hm'.out.below (w':=W) hW).look (a:=Fx.sort (code.getD pn 0)) (b:=Fx.mod (code.getD pn 0)) (c:=code.getD (pn+1) 0) (by unfold In64;omega) (by unfold In64;omega) (by unfold In64;omega))
     generalize code.getD pn 0=x at *
     generalize code.getD (pn+1) 0=y at *
     generalize Fx.ins1 x (at_+pn)=f1 at *
     generalize Fx.ins2 x=f2 at *
     generalize Fx.reg x=xr at *
     generalize Fx.sort x=xs at *
     generalize Fx.mod x=xm at *
     generalize Fx.back x=xb at *
     generalize pval D xs xm y=tz at *
     generalize phas D xs xm y=hs_ at *
     go_wp2_with fail
     refine(FP _).out.mono ?_
     rintro e w3 ⟨rfl,kp⟩
     rw[g3]
     have B3:Below w.heap.size w w3:=Bw.trans kp.all_below
     have B3':Below w1.heap.size w1 w3:=hb.trans kp.all_below
     have hown3:=zh (own_below hown.out kp.all_below)
     obtain⟨hlk,ht⟩:=(LK w3 B3).out
     have hcy3:w3.cell? ⟨ad.block,ad.off+(pn+1),none⟩=some (.int .u32 y):=(kp.cell (p:=ad.add (pn+1)) trivial).trans hcy
     have had3:ad.block<w3.heap.size:=Nat.lt_of_lt_of_le had kp.size
     clear kp hcl hcx hcy FP LK hown hb Bw had
     by_cases hgo:hs_=true∧Fx.okTo tz=true
     ·obtain⟨rfl,hto⟩:=hgo
      have hres:=zh (hcons.out.trans (if_pos ⟨rfl,hto⟩))
      have t0:0≤tz∧tz<65536:=by simpa [Fx.okTo] using hto
      obtain⟨t0,t1⟩:=t0
      have j1:=hi1 tz hto
      have j2:=hi2 tz hto
      have d1:=zh (hi1d tz)
      have d2:=zh (hi2d tz)
      clear hcons hi1 hi2 hi1d hi2d hto ht
      generalize f1 tz=i1 at *
      generalize f2 tz=i2 at *
      by_cases hxs:xs=0
      ·have hxs':(xs != 0)=false:=by simp[hxs]
       have d1:=zh (d1.out.trans (if_pos hxs))
       have d2:=zh (d2.out.trans (if_pos hxs))
       clear hxs
       have E1:=fun W=>zh (risc_encode_any i1 W (ins_fits j1.out))
       have E2:=fun W=>zh (risc_encode_any i2 W (ins_fits j2.out))
       have v1:i1.val=.agg #[.int .i64 3,.bool true,.bool true,.int .i64 7,.int .i64 0,.int .i64 0,.int .i64 0,.int .i64 (tz-(at_+pn+1))]:=by rw[d1.out,show tz-(at_+(pn:Int)+1)=tz-(at_+(pn:Int))-1 by omega];rfl
       have v2:i2.val=.agg #[.int .i64 0,.bool false,.bool false,.int .i64 0,.int .i64 0,.int .i64 0,.int .i64 0,.int .i64 0]:=by rw[d2.out];rfl
       rw[v1] at E1
       rw[v2] at E2
       have Q3:w.heap.size≤w3.heap.size:=B3.size
       have O3:=zh ((hown3.out.alloc (.cells #[.int .i64 3,.bool true,.bool true,.int .i64 7,.int .i64 0,.int .i64 0,.int .i64 0,.int .i64 (tz-(at_+pn+1))] 128)).alloc (.cells #[.int .i64 0,.bool false,.bool false,.int .i64 0,.int .i64 0,.int .i64 0,.int .i64 0,.int .i64 0] 128))
       have Z3:Blk ((w3.alloc (.cells #[.int .i64 3,.bool true,.bool true,.int .i64 7,.int .i64 0,.int .i64 0,.int .i64 0,.int .i64 (tz-(at_+pn+1))] 128)).alloc (.cells #[.int .i64 0,.bool false,.bool false,.int .i64 0,.int .i64 0,.int .i64 0,.int .i64 0,.int .i64 0] 128)) (w3.heap.size+1) 128 #[.int .i64 0,.bool false,.bool false,.int .i64 0,.int .i64 0,.int .i64 0,.int .i64 0,.int .i64 0]:=by
        have:=Blk.new (w3.alloc (.cells #[.int .i64 3,.bool true,.bool true,.int .i64 7,.int .i64 0,.int .i64 0,.int .i64 0,.int .i64 (tz-(at_+pn+1))] 128)) 128 #[.int .i64 0,.bool false,.bool false,.int .i64 0,.int .i64 0,.int .i64 0,.int .i64 0,.int .i64 0]
        rwa [World.size_alloc] at this
       have Z3:=zh Z3
       have X3:w3.heap.size+1<((w3.alloc (.cells #[.int .i64 3,.bool true,.bool true,.int .i64 7,.int .i64 0,.int .i64 0,.int .i64 0,.int .i64 (tz-(at_+pn+1))] 128)).alloc (.cells #[.int .i64 0,.bool false,.bool false,.int .i64 0,.int .i64 0,.int .i64 0,.int .i64 0,.int .i64 0] 128)).heap.size:=by simp
       have B4:Below w1.heap.size w1 ((w3.alloc (.cells #[.int .i64 3,.bool true,.bool true,.int .i64 7,.int .i64 0,.int .i64 0,.int .i64 0,.int .i64 (tz-(at_+pn+1))] 128)).alloc (.cells #[.int .i64 0,.bool false,.bool false,.int .i64 0,.int .i64 0,.int .i64 0,.int .i64 0,.int .i64 0] 128)):=(B3'.alloc B3'.size _).alloc (Nat.le_trans B3'.size (by simp)) _
       have Q4:w1.heap.size≤w3.heap.size:=B3'.size
       have zsz:(Tryz.prog.info? 128).map (·.size)=some 8:=by kernel_rfl
       have zsz:=zh zsz
       have jb1:=zh (Ins.E_bd i1)
       have jb2:=zh (Ins.E_bd i2)
       have L3:=zh hown3.out.lt
       clear d1 d2 v1 v2 B3' hown3
       go_wp2_with fail
       generalize (w3.alloc (.cells #[.int .i64 3,.bool true,.bool true,.int .i64 7,.int .i64 0,.int .i64 0,.int .i64 0,.int .i64 (tz-(at_+pn+1))] 128)).alloc (.cells #[.int .i64 0,.bool false,.bool false,.int .i64 0,.int .i64 0,.int .i64 0,.int .i64 0,.int .i64 0] 128)=w4 at *
       refine(E1 _).out.mono ?_
       rintro e w5 ⟨rfl,hb5⟩
       have O5:=own_below O3.out hb5
       obtain⟨gg,cc,ef,fg0,fg1⟩:=O5.form (by omega)
       injection ef with ef _ ef2
       subst ef ef2
       have fz:=O5.frozenAt pn
       have cl:=O5.cellAt pn (by omega)
       have O6:=(O5.stored pn (.int .u32 i1.E)).1
       rw[← List.map_set] at O6
       rw[List.getElem?_map,List.getElem?_eq_getElem (by have:=hol.out;omega)] at cl
       simp only[Option.map_some] at cl
       have B5:Below w1.heap.size w1 (w5.setCell ⟨gg,pn,none⟩ (.int .u32 i1.E)):=(B4.trans (hb5.mono B4.size)).setCell (p:=⟨gg,pn,none⟩) fg0 _
       have Z5:Blk w5 (w3.heap.size+1) 128 #[.int .i64 0,.bool false,.bool false,.int .i64 0,.int .i64 0,.int .i64 0,.int .i64 0,.int .i64 0]:=Z3.out.below hb5 X3
       have ng:gg≠w3.heap.size+1:=by
        have:=(L3.out gg rfl).2
        omega
       have Z6:=zh (Z5.far (p:=⟨gg,pn,none⟩) (fun e=>ng e.symm) (.int .u32 i1.E))
       have O6:=zh O6
       have hb6':=B5.size
       clear O5 Z5 Z3 O3 hb5 B4
       go_wp2_with (refine wpList_load_row rfl 128 (.tmp 23) rfl (w3.heap.size+1) rfl 128 #[.int .i64 0,.bool false,.bool false,.int .i64 0,.int .i64 0,.int .i64 0,.int .i64 0,.int .i64 0] (0,0) _ Z6.out Tryz.underlying128 rfl zsz.out ?_)
       generalize w5.setCell ⟨gg,pn,none⟩ (.int .u32 i1.E)=w6 at *
       refine(E2 _).out.mono ?_
       rintro e w7 ⟨rfl,hb7⟩
       have O7:=own_below O6.out hb7
       have fz7:=O7.frozenAt (pn+1)
       have cl7:=O7.cellAt (pn+1) (by omega)
       have O8:=(O7.stored (pn+1) (.int .u32 i2.E)).1
       rw[← List.map_set] at O8
       rw[List.getElem?_map,List.getElem?_eq_getElem (by have:=hol.out;simp;omega)] at cl7
       simp only[Option.map_some] at cl7
       have B8:Below w1.heap.size w1 (w7.setCell ⟨gg,pn+1,none⟩ (.int .u32 i2.E)):=(B5.trans (hb7.mono B5.size)).setCell (p:=⟨gg,pn+1,none⟩) fg0 _
       have O8:=zh O8
       clear O7 O6 Z6 hb7 B5
       go_wp2_with fail
       refine⟨⟨k+1,(out.set pn i1.E).set (pn+1) i2.E,by go_num,by omega,by simp[hol.out],O8,B8,zh hres.out.symm⟩,?_⟩
       simp only[intOf]
       omega
      ·have hxs':(xs != 0)=true:=by simp[hxs]
       have d1:=zh (d1.out.trans (if_neg hxs))
       have d2:=zh (d2.out.trans (if_neg hxs))
       clear hxs
       have E1:=fun W=>zh (risc_encode_any i1 W (ins_fits j1.out))
       have E2:=fun W=>zh (risc_encode_any i2 W (ins_fits j2.out))
       have v1:i1.val=.agg #[.int .i64 1,.bool true,.bool false,.int .i64 xr,.int .i64 0,.int .i64 0,.int .i64 0,.int .i64 (4*tz / 65536)]:=by rw[d1.out];rfl
       have v2:i2.val=.agg #[.int .i64 1,.bool false,.bool false,.int .i64 xr,.int .i64 xr,.int .i64 0,.int .i64 6,.int .i64 (bits BinOp.and .i64 (4*tz) 65535)]:=by rw[d2.out,fc_and65535];rfl
       rw[v1] at E1
       rw[v2] at E2
       have Q3:w.heap.size≤w3.heap.size:=B3.size
       have O3:=zh ((hown3.out.alloc (.cells #[.int .i64 1,.bool true,.bool false,.int .i64 xr,.int .i64 0,.int .i64 0,.int .i64 0,.int .i64 (4*tz / 65536)] 128)).alloc (.cells #[.int .i64 1,.bool false,.bool false,.int .i64 xr,.int .i64 xr,.int .i64 0,.int .i64 6,.int .i64 (bits BinOp.and .i64 (4*tz) 65535)] 128))
       have Z3:Blk ((w3.alloc (.cells #[.int .i64 1,.bool true,.bool false,.int .i64 xr,.int .i64 0,.int .i64 0,.int .i64 0,.int .i64 (4*tz / 65536)] 128)).alloc (.cells #[.int .i64 1,.bool false,.bool false,.int .i64 xr,.int .i64 xr,.int .i64 0,.int .i64 6,.int .i64 (bits BinOp.and .i64 (4*tz) 65535)] 128)) (w3.heap.size+1) 128 #[.int .i64 1,.bool false,.bool false,.int .i64 xr,.int .i64 xr,.int .i64 0,.int .i64 6,.int .i64 (bits BinOp.and .i64 (4*tz) 65535)]:=by
        have:=Blk.new (w3.alloc (.cells #[.int .i64 1,.bool true,.bool false,.int .i64 xr,.int .i64 0,.int .i64 0,.int .i64 0,.int .i64 (4*tz / 65536)] 128)) 128 #[.int .i64 1,.bool false,.bool false,.int .i64 xr,.int .i64 xr,.int .i64 0,.int .i64 6,.int .i64 (bits BinOp.and .i64 (4*tz) 65535)]
        rwa [World.size_alloc] at this
       have Z3:=zh Z3
       have X3:w3.heap.size+1<((w3.alloc (.cells #[.int .i64 1,.bool true,.bool false,.int .i64 xr,.int .i64 0,.int .i64 0,.int .i64 0,.int .i64 (4*tz / 65536)] 128)).alloc (.cells #[.int .i64 1,.bool false,.bool false,.int .i64 xr,.int .i64 xr,.int .i64 0,.int .i64 6,.int .i64 (bits BinOp.and .i64 (4*tz) 65535)] 128)).heap.size:=by simp
       have B4:Below w1.heap.size w1 ((w3.alloc (.cells #[.int .i64 1,.bool true,.bool false,.int .i64 xr,.int .i64 0,.int .i64 0,.int .i64 0,.int .i64 (4*tz / 65536)] 128)).alloc (.cells #[.int .i64 1,.bool false,.bool false,.int .i64 xr,.int .i64 xr,.int .i64 0,.int .i64 6,.int .i64 (bits BinOp.and .i64 (4*tz) 65535)] 128)):=(B3'.alloc B3'.size _).alloc (Nat.le_trans B3'.size (by simp)) _
       have Q4:w1.heap.size≤w3.heap.size:=B3'.size
       have zsz:(Tryz.prog.info? 128).map (·.size)=some 8:=by kernel_rfl
       have zsz:=zh zsz
       have jb1:=zh (Ins.E_bd i1)
       have jb2:=zh (Ins.E_bd i2)
       have L3:=zh hown3.out.lt
       clear d1 d2 v1 v2 B3' hown3
       go_wp2_with fail
       generalize (w3.alloc (.cells #[.int .i64 1,.bool true,.bool false,.int .i64 xr,.int .i64 0,.int .i64 0,.int .i64 0,.int .i64 (4*tz / 65536)] 128)).alloc (.cells #[.int .i64 1,.bool false,.bool false,.int .i64 xr,.int .i64 xr,.int .i64 0,.int .i64 6,.int .i64 (bits BinOp.and .i64 (4*tz) 65535)] 128)=w4 at *
       refine(E1 _).out.mono ?_
       rintro e w5 ⟨rfl,hb5⟩
       have O5:=own_below O3.out hb5
       obtain⟨gg,cc,ef,fg0,fg1⟩:=O5.form (by omega)
       injection ef with ef _ ef2
       subst ef ef2
       have fz:=O5.frozenAt pn
       have cl:=O5.cellAt pn (by omega)
       have O6:=(O5.stored pn (.int .u32 i1.E)).1
       rw[← List.map_set] at O6
       rw[List.getElem?_map,List.getElem?_eq_getElem (by have:=hol.out;omega)] at cl
       simp only[Option.map_some] at cl
       have B5:Below w1.heap.size w1 (w5.setCell ⟨gg,pn,none⟩ (.int .u32 i1.E)):=(B4.trans (hb5.mono B4.size)).setCell (p:=⟨gg,pn,none⟩) fg0 _
       have Z5:Blk w5 (w3.heap.size+1) 128 #[.int .i64 1,.bool false,.bool false,.int .i64 xr,.int .i64 xr,.int .i64 0,.int .i64 6,.int .i64 (bits BinOp.and .i64 (4*tz) 65535)]:=Z3.out.below hb5 X3
       have ng:gg≠w3.heap.size+1:=by
        have:=(L3.out gg rfl).2
        omega
       have Z6:=zh (Z5.far (p:=⟨gg,pn,none⟩) (fun e=>ng e.symm) (.int .u32 i1.E))
       have O6:=zh O6
       have hb6':=B5.size
       clear O5 Z5 Z3 O3 hb5 B4
       go_wp2_with (refine wpList_load_row rfl 128 (.tmp 23) rfl (w3.heap.size+1) rfl 128 #[.int .i64 1,.bool false,.bool false,.int .i64 xr,.int .i64 xr,.int .i64 0,.int .i64 6,.int .i64 (bits BinOp.and .i64 (4*tz) 65535)] (0,0) _ Z6.out Tryz.underlying128 rfl zsz.out ?_)
       generalize w5.setCell ⟨gg,pn,none⟩ (.int .u32 i1.E)=w6 at *
       refine(E2 _).out.mono ?_
       rintro e w7 ⟨rfl,hb7⟩
       have O7:=own_below O6.out hb7
       have fz7:=O7.frozenAt (pn+1)
       have cl7:=O7.cellAt (pn+1) (by omega)
       have O8:=(O7.stored (pn+1) (.int .u32 i2.E)).1
       rw[← List.map_set] at O8
       rw[List.getElem?_map,List.getElem?_eq_getElem (by have:=hol.out;simp;omega)] at cl7
       simp only[Option.map_some] at cl7
       have B8:Below w1.heap.size w1 (w7.setCell ⟨gg,pn+1,none⟩ (.int .u32 i2.E)):=(B5.trans (hb7.mono B5.size)).setCell (p:=⟨gg,pn+1,none⟩) fg0 _
       have O8:=zh O8
       clear O7 O6 Z6 hb7 B5
       go_wp2_with fail
       refine⟨⟨k+1,(out.set pn i1.E).set (pn+1) i2.E,by go_num,by omega,by simp[hol.out],O8,B8,zh hres.out.symm⟩,?_⟩
       simp only[intOf]
       omega
     ·have hres:=zh (hcons.out.trans (if_neg hgo))
      have hno:hs_=false∨(hs_=true∧tz<0)∨(hs_=true∧0≤tz∧65536≤tz):=by
       cases hs_ with
       | false=>exact Or.inl rfl
       | true=>
        have:¬ (0≤tz∧tz<65536):=fun h=>hgo ⟨rfl,by simpa [Fx.okTo] using h⟩
        refine Or.inr ?_
        by_cases h:tz<0
        ·exact Or.inl ⟨rfl,h⟩
        ·exact Or.inr ⟨rfl,by omega,by omega⟩
      clear hgo hcons hi1 hi2 hi1d hi2d
      rcases hno with rfl | ⟨rfl,h⟩ | ⟨rfl,h,h'⟩
      ·go_wp2_with fail
       go_ret2
       exact⟨fillEnd_none _ hres.out,B3⟩
      ·go_wp2_with fail
       go_ret2
       exact⟨fillEnd_none _ hres.out,B3⟩
      ·go_wp2_with fail
       go_ret2
       exact⟨fillEnd_none _ hres.out,B3⟩
    ·go_wp2_with fail
     go_ret2
     obtain rfl:k=l.length:=by omega
     have hf:=hf.out
     rw[List.drop_length] at hf
     refine⟨fillEnd_some hf.symm (own_from ?_ B1.size),Bw⟩
     rw[hol.out]
     exact hown.out
end Go.Proofs.YtceflhffilldeaaGreat
namespace Go.Proofs.YtceflhffilldeaaGreat
open Go.RowKit Bw
namespace Fx
theorem getD_set_same (l:List Int) (i:Nat) (x:Int) (h:i<l.length):(l.set i x).getD i 0=x:=by
 simp[List.getD,h]
theorem getD_set_other (l:List Int) (i j:Nat) (x:Int) (h:i≠j):(l.set i x).getD j 0=l.getD j 0:=by
 simp only[List.getD_eq_getElem?_getD,List.getElem?_set_ne h]
theorem Good.inside {code l:List Int} (h:Good code l):∀ p∈l,0≤p∧p.toNat+1<code.length:=by
 intro p hp
 obtain⟨i,hi,rfl⟩:=List.mem_iff_getElem.1 hp
 obtain⟨a1,a2,-,-⟩:=h i hi
 simp only[List.getD_eq_getElem?_getD,List.getElem?_eq_getElem hi,Option.getD_some] at a1 a2
 omega
end Fx
end Go.Proofs.YtceflhffilldeaaGreat
