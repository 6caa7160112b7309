/-
  Joined: ZTkA.
-/
import Derived.Test.YtceflhffilldeaaGreatZReadN
import Derived.Test.YtceflhffilldeaaGreatZHeld
set_option linter.unusedVariables false
set_option linter.unusedSimpArgs false
set_option maxRecDepth 100000
set_option maxHeartbeats 16000000
namespace Go.Proofs.YtceflhffilldeaaGreat
open Go.RowKit ObjL
structure KeepB (bad:TypeId→Bool) (w w':World):Prop where
 os:w'.os=w.os
 tape:w'.tape=w.tape
 output:w'.output=w.output
 size:w.heap.size≤w'.heap.size
 block:∀ (g:Nat) cs t fr,w.heap[g]?=some (.cells cs t fr)→bad t=false→w'.heap[g]?=some (.cells cs t fr)
section
variable {bad bad':TypeId→Bool} {a b c w w':World}
theorem KeepB.refl (bad:TypeId→Bool) (w:World):KeepB bad w w:=⟨rfl,rfl,rfl,Nat.le_refl _,fun _ _ _ _ h _=>h⟩
theorem KeepB.trans (h:KeepB bad a b) (k:KeepB bad b c):KeepB bad a c:=⟨k.os.trans h.os,k.tape.trans h.tape,k.output.trans h.output,Nat.le_trans h.size k.size,fun g cs t fr h1 h2=>k.block g cs t fr (h.block g cs t fr h1 h2) h2⟩
theorem KeepB.mono (h:KeepB bad a b) (hb:∀ t,bad' t=false→bad t=false):KeepB bad' a b:=⟨h.os,h.tape,h.output,h.size,fun g cs t fr h1 h2=>h.block g cs t fr h1 (hb t h2)⟩
theorem KeepB.drew (h:KeepB bad a w):KeepB bad a w.drew:=⟨h.os,h.tape,h.output,h.size,h.block⟩
theorem KeepB.drewN (h:KeepB bad a w) (n:Nat):KeepB bad a (w.drewN n):=⟨h.os,h.tape,h.output,h.size,h.block⟩
theorem KeepB.of_below (h:Below w.heap.size w w'):KeepB bad w w':=⟨h.os,h.tape,h.output,h.size,fun g cs t fr h1 _=>(h.block g (Array.getElem?_eq_some_iff.1 h1).1).trans h1⟩
theorem KeepB.alloc (h:KeepB bad a w) (o:Obj):KeepB bad a (w.alloc o):=h.trans (KeepB.of_below ((Below.refl _ _).alloc (Nat.le_refl _) o))
theorem KeepB.setCell {g i:Nat} {t:TypeId} {cs:Array Value} (h:KeepB bad a w) (hb:Blk w g t cs) (ht:bad t=true) (u:Value):KeepB bad a (w.setCell ⟨g,i,none⟩ u):=
 h.trans ⟨rfl,rfl,rfl,by simp[World.setCell],fun k cs' t' fr h1 h2=>(Below.heap_setCell w ⟨g,i,none⟩ u k (fun e=>by
  dsimp only at e
  subst e
  unfold Blk at hb
  rw[hb] at h1
  injection h1 with h1
  injection h1 with _ h1 _
  subst h1
  rw[ht] at h2
  cases h2)).trans h1⟩
theorem KeepB.rd {p:Nat} {s:List UInt8} {T:TypeId} {st:Lft} (hr:RdIs T w p s st) (hk:RdK p w w') (ht:bad T=true):KeepB bad w w':=
 ⟨hk.os,hk.tape,hk.output,hk.size,fun g cs t fr h1 h2=>(hk.block g ⟨(Array.getElem?_eq_some_iff.1 h1).1,fun e=>by
  subst e
  obtain⟨x,bd,hb,-⟩:=hr
  unfold Blk at hb
  rw[hb] at h1
  injection h1 with h1
  injection h1 with _ h1 _
  subst h1
  rw[ht] at h2
  cases h2⟩).trans h1⟩
theorem Blk.keepB {g:Nat} {t:TypeId} {cs:Array Value} (h:Blk w g t cs) (hk:KeepB bad w w') (ht:bad t=false):Blk w' g t cs:=hk.block g cs t _ h ht
theorem row_keepB {base n size:Nat} {e:TypeId} {v:Value} {xs:List Value} (h:w.ownsRow base e size v n xs) (hk:KeepB bad w w') (he:bad e=false):w'.ownsRow base e size v n xs:=by
 obtain⟨h1,h2⟩:=h
 refine⟨h1,?_⟩
 rcases h2 with h2 | ⟨g,cap,cur,rfl,hg,hh,r⟩
 ·exact Or.inl h2
 ·exact Or.inr ⟨g,cap,cur,rfl,hg,hk.block g _ _ _ hh he,r⟩
theorem KeepB.grown {base n size:Nat} {e:TypeId} {v:Value} {xs:List Value} (h:w.ownsRow base e size v n xs) (hg:w.grownBy w' v.ownBlock) (he:bad e=true):KeepB bad w w':=
 ⟨hg.os,hg.tape,hg.output,hg.size,fun g cs t fr h1 h2=>(hg.block g (Array.getElem?_eq_some_iff.1 h1).1 (fun e1=>by
  rcases h.2 with ⟨rfl,_⟩ | ⟨g',cap,cur,rfl,hg',hh,_⟩
  ·cases e1
  ·have e1:=Option.some.inj e1
   dsimp only at e1
   subst e1
   rw[hh] at h1
   injection h1 with h1
   injection h1 with _ h1 _
   subst h1
   rw[he] at h2
   cases h2)).trans h1⟩
end
theorem flat2 {α:Type} {f:α→List Value} (hf:∀ x,(f x).length=2):∀ (l:List α) (i j:Nat) (hi:i<l.length),j<2→(l.flatMap f)[i*2+j]?=(f l[i])[j]?
 | [],i,j,hi,_=>absurd hi (by simp)
 | x::l,0,j,hi,hj=>by
  rw[List.flatMap_cons,Nat.zero_mul,Nat.zero_add,List.getElem?_append_left (by rw[hf];exact hj)]
  rfl
 | x::l,i+1,j,hi,hj=>by
  rw[List.flatMap_cons,List.getElem?_append_right (by rw[hf];omega),hf]
  have:=flat2 hf l i j (by simpa using hi) hj
  rw[show (i+1)*2+j-2=i*2+j by omega,this]
  rfl
theorem tk_add (g a k:Nat):(⟨g,a,none⟩:Addr).add k=⟨g,a+k,none⟩:=by unfold Addr.add;split<;>simp_all
theorem rowOf_own {α:Type} {is:World→α→Nat→Value→Prop} {f:α→List Value} {w:World} {B:Nat} {e:TypeId} {v:Value} {l:List α} (hf:∀ x,(f x).length=2) (h:w.ownsRow B e 2 v l.length (l.flatMap f))
  (his:∀ x∈l,∀ j y,(f x)[j]?=some y→is w x j y):RowOf 2 is w v l:=by
 have h0:=h
 rcases h.2 with ⟨rfl,hl⟩ | ⟨g,cap,cur,rfl,hg,hh,hn,hc,r⟩
 ·have:l=[]:=List.eq_nil_of_length_eq_zero hl
  subst this
  exact RowOf.nil_
 ·refine⟨by unfold maxLen at hc;omega,some ⟨g,0,none⟩,cap,rfl,fun i hi=>⟨⟨g,0,none⟩,rfl,(h0.lt g rfl).2,fun j hj=>?_⟩⟩
  have h1:=flat2 hf l i j hi hj
  have hjl:j<(f l[i]).length:=by rw[hf];exact hj
  rw[List.getElem?_eq_getElem hjl] at h1
  refine⟨(f l[i])[j],?_,his _ (List.getElem_mem hi) j _ (List.getElem?_eq_getElem hjl)⟩
  have h2:=h0.cells (g:=g) rfl (i*2+j) _ h1
  rw[tk_add,tk_add,Nat.zero_add]
  rw[tk_add,Nat.zero_add] at h2
  exact h2
theorem RowOf.map_ {α β:Type} {k:Nat} {is:World→β→Nat→Value→Prop} {g:α→β} {w:World} {v:Value} {l:List α} (h:RowOf k (fun w x j y=>is w (g x) j y) w v l):RowOf k is w v (l.map g):=by
 obtain⟨hm,A,c,rfl,hc⟩:=h
 refine⟨by rw[List.length_map];exact hm,A,c,by rw[List.length_map],fun i hi=>?_⟩
 rw[List.length_map] at hi
 obtain⟨ad,e,hl,hx⟩:=hc i hi
 refine⟨ad,e,hl,fun j hj=>?_⟩
 obtain⟨x,h1,h2⟩:=hx j hj
 exact⟨x,h1,by rw[List.getElem_map];exact h2⟩
def useCells (u:List UInt8×Int):List Value:=[.string (txt u.1),.int .u32 u.2]
def extCells (e:Int×Int):List Value:=[.int .i64 e.1,.int .i64 e.2]
abbrev DV:=(Int×List (Int×Int))×Value
def dvCells (d:DV):List Value:=[.int .i64 d.1.1,d.2]
def ERowT (w:World) (v:Value) (l:List (Int×Int)):Prop:=ERow w v l∧∀ ad n c,v=.slice (some ad) n c→0<n→∃ cs fr,w.heap[ad.block]?=some (.cells cs 93 fr)
theorem ERowT.nil_ (w:World):ERowT w (.slice none 0 0) []:=⟨RowOf.nil_,fun ad n c h _=>by cases h⟩
theorem ERowT.keepB {bad:TypeId→Bool} {w w':World} {v:Value} {l:List (Int×Int)} (h:ERowT w v l) (hk:KeepB bad w w') (hb:bad 93=false):ERowT w' v l:=by
 obtain⟨⟨hm,A,c,rfl,hc⟩,ht⟩:=h
 have key:∀ ad,A=some ad→0<l.length→w'.heap[ad.block]?=w.heap[ad.block]?:=fun ad e h0=>by
  subst e
  obtain⟨cs,fr,h1⟩:=ht ad _ _ rfl h0
  rw[hk.block _ _ _ _ h1 hb,h1]
 refine⟨⟨hm,A,c,rfl,fun i hi=>?_⟩,fun ad n c' e h0=>?_⟩
 ·obtain⟨ad,e,hl,hx⟩:=hc i hi
  have hkk:=key ad e (by omega)
  refine⟨ad,e,Nat.lt_of_lt_of_le hl hk.size,fun j hj=>?_⟩
  obtain⟨x,h1,h2⟩:=hx j hj
  exact⟨x,(World.cell?_of_block (w:=w) (w':=w') (a:=(ad.add (i*2)).add j) (by rw[block_add,block_add];exact hkk)).trans h1,h2⟩
 ·obtain⟨cs,fr,h1⟩:=ht ad n c' e h0
  exact⟨cs,fr,hk.block _ _ _ _ h1 hb⟩
theorem ERowT.of_own {w:World} {B:Nat} {v:Value} {l:List (Int×Int)} (h:w.ownsRow B 93 2 v l.length (l.flatMap extCells)):ERowT w v l:=by
 refine⟨rowOf_own (f:=extCells) (fun _=>rfl) h (fun x _ j y hy=>?_),fun ad n c e h0=>?_⟩
 ·match j,hy with
  | 0,hy=>injection hy with hy;exact⟨fun _=>hy.symm,fun h=>(by cases h)⟩
  | 1,hy=>injection hy with hy;exact⟨fun h=>(by cases h),fun _=>hy.symm⟩
 ·rcases h.2 with ⟨rfl,_⟩ | ⟨g,cap,cur,rfl,hg,hh,_⟩
  ·cases e
  ·injection e with e1 e2 e3
   injection e1 with e1
   subst e1
   exact⟨_,_,hh⟩
structure TkRows (B:Nat) (w:World) (us:List (List UInt8×Int)) (ds:List DV) (co en:List Int) (vU vD vC vE:Value):Prop where
 uses:w.ownsRow B 54 2 vU us.length (us.flatMap useCells)
 descs:w.ownsRow B 84 2 vD ds.length (ds.flatMap dvCells)
 exts:∀ d∈ds,ERowT w d.2 d.1.2
 code:w.ownsRow B 37 1 vC co.length (co.map (Value.int .u32))
 entries:w.ownsRow B 3 1 vE en.length (en.map (Value.int .i64))
def noRow (bad:TypeId→Bool):Prop:=bad 54=false∧bad 84=false∧bad 93=false∧bad 37=false∧bad 3=false
theorem TkRows.keepB {bad:TypeId→Bool} {B:Nat} {w w':World} {us:List (List UInt8×Int)} {ds:List DV} {co en:List Int} {vU vD vC vE:Value} (h:TkRows B w us ds co en vU vD vC vE) (hk:KeepB bad w w') (hb:noRow bad):TkRows B w' us ds co en vU vD vC vE:=
 ⟨row_keepB h.uses hk hb.1,row_keepB h.descs hk hb.2.1,fun d hd=>(h.exts d hd).keepB hk hb.2.2.1,row_keepB h.code hk hb.2.2.2.1,row_keepB h.entries hk hb.2.2.2.2⟩
theorem TkRows.nil_ (B:Nat) (w:World):TkRows B w [] [] [] [] (.slice none 0 0) (.slice none 0 0) (.slice none 0 0) (.slice none 0 0):=⟨World.ownsRow_nil _ _ _ _,World.ownsRow_nil _ _ _ _,fun d hd=>absurd hd (by simp),World.ownsRow_nil _ _ _ _,World.ownsRow_nil _ _ _ _⟩
theorem TkRows.parts {B:Nat} {w:World} {us:List (List UInt8×Int)} {ds:List DV} {co en:List Int} {vU vD vC vE:Value} (h:TkRows B w us ds co en vU vD vC vE) {o:Ob} (e1:o.uses=us) (e2:o.descs=ds.map (·.1)) (e3:o.code=co) (e4:o.entries=en):ObParts w o vU vD vC vE:=by
 refine⟨?_,?_,?_,?_⟩
 ·rw[e1]
  refine rowOf_own (f:=useCells) (fun _=>rfl) h.uses (fun x _ j y hy=>?_)
  match j,hy with
  | 0,hy=>injection hy with hy;exact⟨fun _=>hy.symm,fun h=>(by cases h)⟩
  | 1,hy=>injection hy with hy;exact⟨fun h=>(by cases h),fun _=>hy.symm⟩
 ·rw[e2]
  refine RowOf.map_ (g:=fun d:DV=>d.1) (rowOf_own (f:=dvCells) (fun _=>rfl) h.descs (fun x hx j y hy=>?_))
  match j,hy with
  | 0,hy=>injection hy with hy;exact⟨fun _=>hy.symm,fun h=>(by cases h)⟩
  | 1,hy=>injection hy with hy;exact⟨fun h=>(by cases h),fun _=>by rw[← hy];exact(h.exts x hx).1⟩
 ·rw[e3];exact row_of_own h.code
 ·rw[e4];exact row_of_own h.entries
def tkCells (p:Nat) (nm:List UInt8) (key:Int) (vU vD:Value) (da:Int) (ss:List UInt8) (vC vE:Value) (ca pl:Int):Array Value:=
 #[.pointer (some ⟨p,0,none⟩),.string (txt nm),.int .u32 key,vU,vD,.int .i64 da,.string (txt ss),vC,vE,.int .i64 ca,.int .i64 pl]
end Go.Proofs.YtceflhffilldeaaGreat
namespace Go.Proofs.YtceflhffilldeaaGreat
open Go.RowKit ObjL
theorem step_app {P:Program} {ops:Array Oper} {o:Oper} {a:Act} {K:Act→World→Prop} {Q:Exit→Act→World→Prop} {E:Prop} (W:World) (hgd:o.guard=none) (s x:Operand) (t:TypeId)
  (ho:o.op=.call { callee:=.builtin .append,args:=#[s,x],argTypes:=#[t,t] })
  (base:Nat) (e:TypeId) (i:TypeInfo) (z:Value) (size bytes:Nat) (ht:P.underlying t=some (.slice e)) (hi:P.info? e=some i) (hz:i.zero=some z)
  (hsize:i.size=size) (hby:i.bytes=bytes) (hzs:z.cells.size=size) (hsz:0<size)
  (v:Value) (n:Nat) (xs:List Value) (hs:a.eval s=v) (hown:W.ownsRow base e size v n xs)
  (ad:Addr) (m c:Nat) (news:List Value) (hx:a.eval x=.slice (some ad) m c) (hl:news.length=m*size) (hnews:∀ j u,news[j]?=some u→W.cell? (ad.add j)=some u) (h1:∀ u∈news,u.oneCell'=true)
  (h63:n+m≤maxLen) (hbytes:(n+m)*bytes≤140737488355328) (hbase:base≤W.heap.size)
  (h:∀ v' w',w'.ownsRow base e size v' (n+m) (xs++news)→W.grownBy w' v.ownBlock→K (a.put o.dst v') w') :
  if Region.wanted o (yielded ops a.tmps)=true then o.wp P a W K Q else E:=by
 have hw:Region.wanted o (yielded ops a.tmps)=true:=by simp[Region.wanted,hgd]
 rw[if_pos hw]
 exact wp_append_own W s x t ho base e i z size bytes ht hi hz hsize hby hzs hsz v n xs hs hown ad m c news hx hl hnews h1 h63 hbytes hbase fun v' w' h1 h2 _=>h v' w' h1 h2
def tkBad (t:TypeId):Bool:=t==193 || t==222 || t==54 || t==84 || t==93 || t==37 || t==3
theorem tk_u32_info:(Tryz.prog.info? 37).map (fun i=>(i.zero,i.size,i.bytes))=some (some (.int .u32 0),1,4):=by kernel_rfl
theorem tk_int_info:(Tryz.prog.info? 3).map (fun i=>(i.zero,i.size,i.bytes))=some (some (.int .i64 0),1,8):=by kernel_rfl
theorem tk_news1 (W:World) (x:Value) (t:TypeId):∀ (j:Nat) (u:Value),[x][j]?=some u→(W.alloc (.cells #[x] t)).cell? ((⟨W.heap.size,0,none⟩:Addr).add j)=some u:=fun j u hu=>by
 match j,hu with
 | 0,hu=>simp at hu;subst hu;exact(Blk.new W t #[x]).cell 0
 | j+1,hu=>simp at hu
def rdBad (t:TypeId):Bool:=t==222
theorem tk_code1 (B tb tk p:Nat) (s r nm ss:List UInt8) (key da ca pl:Int) (us:List (List UInt8×Int)) (ds:List DV) (co en:List Int) (vU vD vC vE:Value) (w:World)
  (hbx:Blk w tb 189 #[.pointer (some ⟨tk,0,none⟩)]) (hbk:Blk w tk 193 (tkCells p nm key vU vD da ss vC vE ca pl)) (hrd:RdIs rdT w p s (some r)) (hrows:TkRows B w us ds co en vU vD vC vE)
  (hB:B≤tk∧B≤p) (hs:s.length≤1000000) (hn:co.length≤2147483647) :
  Calls Tryz.prog 141 #[.pointer (some ⟨tb,0,none⟩)] w fun e w'=>e=.returned (.tuple #[])∧∃ x st' v',Took rWord (some r) x st'∧wOk x∧RdIs rdT w' p s st'∧Blk w' tk 193 (tkCells p nm key vU vD da ss v' vE ca pl)∧TkRows B w' us ds (co++[x]) en vU vD v' vE∧KeepB tkBad w w'∧Below B w w':=by
 have RDR:=zh (rd_word p s (some r) w.drew hrd hs)
 have hrdH:=zh hrd
 have hbxH:=zh hbx
 have hbkH:=zh hbk
 have hrowsH:=zh hrows
 have hpl:=hrd.lt
 have hBs:B≤w.heap.size:=by omega
 have hne1:tk≠p:=by obtain⟨a,bd,h1,-⟩:=hrd;exact hbk.ne_ h1 (by decide)
 have hne2:tb≠p:=by obtain⟨a,bd,h1,-⟩:=hrd;exact hbx.ne_ h1 (by decide)
 have S0:w.drew.cell? ⟨tb,0,none⟩=some (.pointer (some ⟨tk,0,none⟩))∧w.drew.cell? ⟨tk,0,none⟩=some (.pointer (some ⟨p,0,none⟩))∧w.drew.cell? ⟨tk,7,none⟩=some vC:=⟨hbx.cell 0,hbk.cell 0,hbk.cell 7⟩
 obtain⟨i0,hi0,hz0,hz1,hz2⟩:=info_parts tk_u32_info
 clear hbx hbk hrd hrows
 go_enter Tryz.func141,Tryz.ntmps141
 refine wp_region_F (fun w'=>w'.cell? ⟨tb,0,none⟩=some (.pointer (some ⟨tk,0,none⟩))∧w'.cell? ⟨tk,0,none⟩=some (.pointer (some ⟨p,0,none⟩))∧w'.cell? ⟨tk,7,none⟩=some vC) 16 (by kernel_rfl) ?_
 refine hfTake 0 (v:=?_) ?_ (by assumption) ?_
 rotate_left
 ·(intro _ h;obtain⟨_,_,_⟩:=h;go_simp<;>with_reducible rfl)
 try simp only[Act.put,sAp,sA0,sAs]
 refine hfTake 1 (v:=?_) ?_ (by assumption) ?_
 rotate_left
 ·(intro _ h;obtain⟨_,_,_⟩:=h;go_simp<;>with_reducible rfl)
 try simp only[Act.put,sAp,sA0,sAs]
 refine hfTake 2 (v:=?_) ?_ (by assumption) ?_
 rotate_left
 ·(intro _ h;obtain⟨_,_,_⟩:=h;go_simp<;>with_reducible rfl)
 try simp only[Act.put,sAp,sA0,sAs]
 refine hfTake 3 (v:=?_) ?_ (by assumption) ?_
 rotate_left
 ·(intro _ h;obtain⟨_,_,_⟩:=h;go_simp<;>with_reducible rfl)
 try simp only[Act.put,sAp,sA0,sAs]
 refine hfTake 4 (v:=?_) ?_ (by assumption) ?_
 rotate_left
 ·(intro _ h;obtain⟨_,_,_⟩:=h;go_simp<;>with_reducible rfl)
 try simp only[Act.put,sAp,sA0,sAs]
 refine hfTake 5 (v:=?_) ?_ (by assumption) ?_
 rotate_left
 ·(intro _ h;obtain⟨_,_,_⟩:=h;go_simp<;>with_reducible rfl)
 try simp only[Act.put,sAp,sA0,sAs]
 refine hfTake 6 (v:=?_) ?_ (by assumption) ?_
 rotate_left
 ·(intro _ h;obtain⟨_,_,_⟩:=h;go_simp<;>with_reducible rfl)
 try simp only[Act.put,sAp,sA0,sAs]
 refine hfTake 7 (v:=?_) ?_ (by assumption) ?_
 rotate_left
 ·(intro _ h;obtain⟨_,_,_⟩:=h;go_simp<;>with_reducible rfl)
 try simp only[Act.put,sAp,sA0,sAs]
 refine hfTake 8 (v:=?_) ?_ (by assumption) ?_
 rotate_left
 ·(intro _ h;obtain⟨_,_,_⟩:=h;go_simp<;>with_reducible rfl)
 try simp only[Act.put,sAp,sA0,sAs]
 refine hfTake 9 (v:=?_) ?_ (by assumption) ?_
 rotate_left
 ·(intro _ h;obtain⟨_,_,_⟩:=h;go_simp<;>with_reducible rfl)
 try simp only[Act.put,sAp,sA0,sAs]
 refine hfRdy 10 (by kernel_rfl) rfl fun K hK=>?_
 go_simp
 refine RDR.out.mono ?_
 rintro e w1 ⟨x,st',rfl,h1,h2,h3,h4⟩
 have hbx1:=zh ((Blk.kept hbxH.out.drew h3 ⟨hbxH.out.lt,hne2⟩))
 have hbk1:=zh ((Blk.kept hbkH.out.drew h3 ⟨hbkH.out.lt,hne1⟩))
 have KB1:KeepB rdBad w w1:=((KeepB.refl rdBad w).drew).trans (KeepB.rd (hrdH.out.drewN 1) h3 (by decide))
 have hrows1:=zh (hrowsH.out.keepB KB1 ⟨by decide,by decide,by decide,by decide,by decide⟩)
 have KT1:=zh (KB1.mono (bad':=tkBad) (fun t h=>by unfold tkBad at h;unfold rdBad;cases hh:(t==222)<;>simp_all))
 have BB1:=zh ((Below.refl B w).drew.trans (h3.to_below hB.2 hpl))
 have hBs1:B≤w1.heap.size:=Nat.le_trans hBs BB1.out.size
 have h1:=zh h1
 have h2:=zh h2
 have h4:=zh h4
 clear h3 KB1
 have S1:w1.cell? ⟨tb,0,none⟩=some (.pointer (some ⟨tk,0,none⟩))∧w1.cell? ⟨tk,0,none⟩=some (.pointer (some ⟨p,0,none⟩))∧w1.cell? ⟨tk,7,none⟩=some vC:=⟨hbx1.out.cell 0,hbk1.out.cell 0,hbk1.out.cell 7⟩
 refine hK.out _ _ (fun _=>S1) ?_
 clear hK K S0
 try simp only[Act.put,sAp,sA0,sAs]
 refine hfRdy 11 (by kernel_rfl) rfl fun K hK=>?_
 go_simp
 have AB:=zh ((Below.refl w1.heap.size w1).alloc (Nat.le_refl _) (.cells #[.int .u32 x] 37))
 have N1:=tk_news1 w1 (.int .u32 x) 37
 have hsz1:(w1.alloc (.cells #[.int .u32 x] 37)).heap.size=w1.heap.size+1:=by simp
 have hbx2:=zh (hbx1.out.alloc (.cells #[.int .u32 x] 37))
 have hbk2:=zh (hbk1.out.alloc (.cells #[.int .u32 x] 37))
 have hrows2:=zh (hrows1.out.keepB ((KeepB.refl rdBad w1).alloc (.cells #[.int .u32 x] 37)) ⟨by decide,by decide,by decide,by decide,by decide⟩)
 have KT2:=zh (KT1.out.alloc (.cells #[.int .u32 x] 37))
 have BB2:=zh (BB1.out.alloc hBs1 (.cells #[.int .u32 x] 37))
 have h22:=zh (h2.out.below AB.out)
 have S2:(w1.alloc (.cells #[.int .u32 x] 37)).cell? ⟨tb,0,none⟩=some (.pointer (some ⟨tk,0,none⟩))∧(w1.alloc (.cells #[.int .u32 x] 37)).cell? ⟨tk,0,none⟩=some (.pointer (some ⟨p,0,none⟩))∧(w1.alloc (.cells #[.int .u32 x] 37)).cell? ⟨tk,7,none⟩=some vC:=⟨hbx2.out.cell 0,hbk2.out.cell 0,hbk2.out.cell 7⟩
 refine hK.out _ _ (fun _=>S2) ?_
 clear hK K S1 AB
 try simp only[Act.put,sAp,sA0,sAs]
 generalize w1.heap.size=g1 at *
 generalize w1.alloc (.cells #[.int .u32 x] 37)=w2 at *
 refine hfRdy 12 (by kernel_rfl) rfl fun K hK=>?_
 refine step_app w2 rfl (.tmp 6) (.tmp 12) 30 rfl B 37 i0 _ 1 4 Tryz.underlying30 hi0 hz0 hz1 hz2 rfl (by omega) vC co.length (co.map (Value.int .u32)) rfl hrows2.out.code ⟨g1,0,none⟩ 1 1 [.int .u32 x] rfl rfl N1 (by simp[Value.oneCell']) (by simp only[maxLen];omega) (by omega) (by omega) ?_
 intro v' w3 ho3 hg3
 obtain⟨A3,k3,rfl⟩:=own_slice ho3
 have KG:=KeepB.grown (bad:=fun t=>t==37) hrows2.out.code hg3 (by decide)
 have hbx3:=zh (hbx2.out.keepB KG (by decide))
 have hbk3:=zh (hbk2.out.keepB KG (by decide))
 have KT3:=zh (KT2.out.trans (KG.mono (bad':=tkBad) (fun t h=>by unfold tkBad at h;cases hh:(t==37)<;>simp_all)))
 have BB3:=zh (BB2.out.grown hg3 (by omega) (fun q hq=>(hrows2.out.code.lt q hq).1))
 have hr3:=zh (show TkRows B w3 us ds (co++[x]) en vU vD (.slice A3 (co.length+1) k3) vE from ⟨row_keepB hrows2.out.uses KG (by decide),row_keepB hrows2.out.descs KG (by decide),fun d hd=>(hrows2.out.exts d hd).keepB KG (by decide),(by rw[List.length_append,List.map_append];exact ho3),row_keepB hrows2.out.entries KG (by decide)⟩)
 have h23:=zh (show RdIs rdT w3 p s st' by
  obtain⟨a,bd,q1,q2,q3⟩:=h22.out
  exact⟨a,bd,q1.keepB KG (by decide),q2,q3⟩)
 have S3:w3.cell? ⟨tb,0,none⟩=some (.pointer (some ⟨tk,0,none⟩))∧w3.cell? ⟨tk,0,none⟩=some (.pointer (some ⟨p,0,none⟩))∧w3.cell? ⟨tk,7,none⟩=some vC:=⟨hbx3.out.cell 0,hbk3.out.cell 0,hbk3.out.cell 7⟩
 refine hK.out _ _ (fun _=>S3) ?_
 clear hK K S2 KG ho3 hg3 N1
 try simp only[Act.put,sAp,sA0,sAs]
 refine hfRdy 13 (by kernel_rfl) rfl fun K hK=>?_
 go_simp
 refine hK.out _ _ (fun _=>S3) ?_
 clear hK K
 try simp only[Act.put,sAp,sA0,sAs]
 refine hfRdy 14 (by kernel_rfl) rfl fun K hK=>?_
 go_simp
 refine hK.out _ _ (fun _=>S3) ?_
 clear hK K
 try simp only[Act.put,sAp,sA0,sAs]
 refine hfRdy 15 (by kernel_rfl) rfl fun K hK=>?_
 go_simp
 refine hK.out _ _ (fun _=>S3) ?_
 clear hK K
 try simp only[Act.put,sAp,sA0,sAs]
 refine hfRdy 16 (by kernel_rfl) rfl fun K hK=>?_
 obtain⟨s1,s2,s3⟩:=S3
 have f3:=hbk3.out.frozen 7
 go_simp
 refine hK.out _ _ (fun h=>absurd rfl h) ?_
 clear hK K
 try simp only[Act.put,sAp,sA0,sAs]
 refine wpAnyF_done (by kernel_rfl) ?_ _
 have hbkE:=zh (hbk3.out.set_ 7 (.slice A3 (co.length+1) k3))
 have KTE:=zh (KT3.out.setCell hbk3.out (i:=7) (by decide) (.slice A3 (co.length+1) k3))
 have BBE:=zh (BB3.out.setCell (p:=⟨tk,7,none⟩) hB.1 (.slice A3 (co.length+1) k3))
 have KS:=(KeepB.refl (fun t=>t==193) w3).setCell hbk3.out (i:=7) (by decide) (.slice A3 (co.length+1) k3)
 have hrE:=zh (hr3.out.keepB KS ⟨by decide,by decide,by decide,by decide,by decide⟩)
 have hdE:=zh (show RdIs rdT (w3.setCell ⟨tk,7,none⟩ (.slice A3 (co.length+1) k3)) p s st' by
  obtain⟨a,bd,q1,q2,q3⟩:=h23.out
  exact⟨a,bd,q1.keepB KS (by decide),q2,q3⟩)
 clear KS
 go_wp2_with fail
 go_end0
 exact⟨rfl,x,st',_,h1.out,h4.out,hdE.out,hbkE.out,hrE.out,KTE.out,BBE.out⟩
theorem tk_entries1 (B tb tk p:Nat) (s r nm ss:List UInt8) (key da ca pl:Int) (us:List (List UInt8×Int)) (ds:List DV) (co en:List Int) (vU vD vC vE:Value) (w:World)
  (hbx:Blk w tb 189 #[.pointer (some ⟨tk,0,none⟩)]) (hbk:Blk w tk 193 (tkCells p nm key vU vD da ss vC vE ca pl)) (hrd:RdIs rdT w p s (some r)) (hrows:TkRows B w us ds co en vU vD vC vE)
  (hB:B≤tk∧B≤p) (hs:s.length≤1000000) (hn:en.length≤2147483647) :
  Calls Tryz.prog 142 #[.pointer (some ⟨tb,0,none⟩)] w fun e w'=>e=.returned (.tuple #[])∧∃ x st' v',Took rNum (some r) x st'∧nOk x∧RdIs rdT w' p s st'∧Blk w' tk 193 (tkCells p nm key vU vD da ss vC v' ca pl)∧TkRows B w' us ds co (en++[x]) vU vD vC v'∧KeepB tkBad w w'∧Below B w w':=by
 have RDR:=zh (rd_num p s (some r) w.drew hrd hs)
 have hrdH:=zh hrd
 have hbxH:=zh hbx
 have hbkH:=zh hbk
 have hrowsH:=zh hrows
 have hpl:=hrd.lt
 have hBs:B≤w.heap.size:=by omega
 have hne1:tk≠p:=by obtain⟨a,bd,h1,-⟩:=hrd;exact hbk.ne_ h1 (by decide)
 have hne2:tb≠p:=by obtain⟨a,bd,h1,-⟩:=hrd;exact hbx.ne_ h1 (by decide)
 have S0:w.drew.cell? ⟨tb,0,none⟩=some (.pointer (some ⟨tk,0,none⟩))∧w.drew.cell? ⟨tk,0,none⟩=some (.pointer (some ⟨p,0,none⟩))∧w.drew.cell? ⟨tk,8,none⟩=some vE:=⟨hbx.cell 0,hbk.cell 0,hbk.cell 8⟩
 obtain⟨i0,hi0,hz0,hz1,hz2⟩:=info_parts tk_int_info
 clear hbx hbk hrd hrows
 go_enter Tryz.func142,Tryz.ntmps142
 refine wp_region_F (fun w'=>w'.cell? ⟨tb,0,none⟩=some (.pointer (some ⟨tk,0,none⟩))∧w'.cell? ⟨tk,0,none⟩=some (.pointer (some ⟨p,0,none⟩))∧w'.cell? ⟨tk,8,none⟩=some vE) 16 (by kernel_rfl) ?_
 refine hfTake 0 (v:=?_) ?_ (by assumption) ?_
 rotate_left
 ·(intro _ h;obtain⟨_,_,_⟩:=h;go_simp<;>with_reducible rfl)
 try simp only[Act.put,sAp,sA0,sAs]
 refine hfTake 1 (v:=?_) ?_ (by assumption) ?_
 rotate_left
 ·(intro _ h;obtain⟨_,_,_⟩:=h;go_simp<;>with_reducible rfl)
 try simp only[Act.put,sAp,sA0,sAs]
 refine hfTake 2 (v:=?_) ?_ (by assumption) ?_
 rotate_left
 ·(intro _ h;obtain⟨_,_,_⟩:=h;go_simp<;>with_reducible rfl)
 try simp only[Act.put,sAp,sA0,sAs]
 refine hfTake 3 (v:=?_) ?_ (by assumption) ?_
 rotate_left
 ·(intro _ h;obtain⟨_,_,_⟩:=h;go_simp<;>with_reducible rfl)
 try simp only[Act.put,sAp,sA0,sAs]
 refine hfTake 4 (v:=?_) ?_ (by assumption) ?_
 rotate_left
 ·(intro _ h;obtain⟨_,_,_⟩:=h;go_simp<;>with_reducible rfl)
 try simp only[Act.put,sAp,sA0,sAs]
 refine hfTake 5 (v:=?_) ?_ (by assumption) ?_
 rotate_left
 ·(intro _ h;obtain⟨_,_,_⟩:=h;go_simp<;>with_reducible rfl)
 try simp only[Act.put,sAp,sA0,sAs]
 refine hfTake 6 (v:=?_) ?_ (by assumption) ?_
 rotate_left
 ·(intro _ h;obtain⟨_,_,_⟩:=h;go_simp<;>with_reducible rfl)
 try simp only[Act.put,sAp,sA0,sAs]
 refine hfTake 7 (v:=?_) ?_ (by assumption) ?_
 rotate_left
 ·(intro _ h;obtain⟨_,_,_⟩:=h;go_simp<;>with_reducible rfl)
 try simp only[Act.put,sAp,sA0,sAs]
 refine hfTake 8 (v:=?_) ?_ (by assumption) ?_
 rotate_left
 ·(intro _ h;obtain⟨_,_,_⟩:=h;go_simp<;>with_reducible rfl)
 try simp only[Act.put,sAp,sA0,sAs]
 refine hfTake 9 (v:=?_) ?_ (by assumption) ?_
 rotate_left
 ·(intro _ h;obtain⟨_,_,_⟩:=h;go_simp<;>with_reducible rfl)
 try simp only[Act.put,sAp,sA0,sAs]
 refine hfRdy 10 (by kernel_rfl) rfl fun K hK=>?_
 go_simp
 refine RDR.out.mono ?_
 rintro e w1 ⟨x,st',rfl,h1,h2,h3,h4⟩
 have hbx1:=zh ((Blk.kept hbxH.out.drew h3 ⟨hbxH.out.lt,hne2⟩))
 have hbk1:=zh ((Blk.kept hbkH.out.drew h3 ⟨hbkH.out.lt,hne1⟩))
 have KB1:KeepB rdBad w w1:=((KeepB.refl rdBad w).drew).trans (KeepB.rd (hrdH.out.drewN 1) h3 (by decide))
 have hrows1:=zh (hrowsH.out.keepB KB1 ⟨by decide,by decide,by decide,by decide,by decide⟩)
 have KT1:=zh (KB1.mono (bad':=tkBad) (fun t h=>by unfold tkBad at h;unfold rdBad;cases hh:(t==222)<;>simp_all))
 have BB1:=zh ((Below.refl B w).drew.trans (h3.to_below hB.2 hpl))
 have hBs1:B≤w1.heap.size:=Nat.le_trans hBs BB1.out.size
 have h1:=zh h1
 have h2:=zh h2
 have h4:=zh h4
 clear h3 KB1
 have S1:w1.cell? ⟨tb,0,none⟩=some (.pointer (some ⟨tk,0,none⟩))∧w1.cell? ⟨tk,0,none⟩=some (.pointer (some ⟨p,0,none⟩))∧w1.cell? ⟨tk,8,none⟩=some vE:=⟨hbx1.out.cell 0,hbk1.out.cell 0,hbk1.out.cell 8⟩
 refine hK.out _ _ (fun _=>S1) ?_
 clear hK K S0
 try simp only[Act.put,sAp,sA0,sAs]
 refine hfRdy 11 (by kernel_rfl) rfl fun K hK=>?_
 go_simp
 have AB:=zh ((Below.refl w1.heap.size w1).alloc (Nat.le_refl _) (.cells #[.int .i64 x] 3))
 have N1:=tk_news1 w1 (.int .i64 x) 3
 have hsz1:(w1.alloc (.cells #[.int .i64 x] 3)).heap.size=w1.heap.size+1:=by simp
 have hbx2:=zh (hbx1.out.alloc (.cells #[.int .i64 x] 3))
 have hbk2:=zh (hbk1.out.alloc (.cells #[.int .i64 x] 3))
 have hrows2:=zh (hrows1.out.keepB ((KeepB.refl rdBad w1).alloc (.cells #[.int .i64 x] 3)) ⟨by decide,by decide,by decide,by decide,by decide⟩)
 have KT2:=zh (KT1.out.alloc (.cells #[.int .i64 x] 3))
 have BB2:=zh (BB1.out.alloc hBs1 (.cells #[.int .i64 x] 3))
 have h22:=zh (h2.out.below AB.out)
 have S2:(w1.alloc (.cells #[.int .i64 x] 3)).cell? ⟨tb,0,none⟩=some (.pointer (some ⟨tk,0,none⟩))∧(w1.alloc (.cells #[.int .i64 x] 3)).cell? ⟨tk,0,none⟩=some (.pointer (some ⟨p,0,none⟩))∧(w1.alloc (.cells #[.int .i64 x] 3)).cell? ⟨tk,8,none⟩=some vE:=⟨hbx2.out.cell 0,hbk2.out.cell 0,hbk2.out.cell 8⟩
 refine hK.out _ _ (fun _=>S2) ?_
 clear hK K S1 AB
 try simp only[Act.put,sAp,sA0,sAs]
 generalize w1.heap.size=g1 at *
 generalize w1.alloc (.cells #[.int .i64 x] 3)=w2 at *
 refine hfRdy 12 (by kernel_rfl) rfl fun K hK=>?_
 refine step_app w2 rfl (.tmp 6) (.tmp 12) 46 rfl B 3 i0 _ 1 8 Tryz.underlying46 hi0 hz0 hz1 hz2 rfl (by omega) vE en.length (en.map (Value.int .i64)) rfl hrows2.out.entries ⟨g1,0,none⟩ 1 1 [.int .i64 x] rfl rfl N1 (by simp[Value.oneCell']) (by simp only[maxLen];omega) (by omega) (by omega) ?_
 intro v' w3 ho3 hg3
 obtain⟨A3,k3,rfl⟩:=own_slice ho3
 have KG:=KeepB.grown (bad:=fun t=>t==3) hrows2.out.entries hg3 (by decide)
 have hbx3:=zh (hbx2.out.keepB KG (by decide))
 have hbk3:=zh (hbk2.out.keepB KG (by decide))
 have KT3:=zh (KT2.out.trans (KG.mono (bad':=tkBad) (fun t h=>by unfold tkBad at h;cases hh:(t==3)<;>simp_all)))
 have BB3:=zh (BB2.out.grown hg3 (by omega) (fun q hq=>(hrows2.out.entries.lt q hq).1))
 have hr3:=zh (show TkRows B w3 us ds co (en++[x]) vU vD vC (.slice A3 (en.length+1) k3) from ⟨row_keepB hrows2.out.uses KG (by decide),row_keepB hrows2.out.descs KG (by decide),fun d hd=>(hrows2.out.exts d hd).keepB KG (by decide),row_keepB hrows2.out.code KG (by decide),(by rw[List.length_append,List.map_append];exact ho3)⟩)
 have h23:=zh (show RdIs rdT w3 p s st' by
  obtain⟨a,bd,q1,q2,q3⟩:=h22.out
  exact⟨a,bd,q1.keepB KG (by decide),q2,q3⟩)
 have S3:w3.cell? ⟨tb,0,none⟩=some (.pointer (some ⟨tk,0,none⟩))∧w3.cell? ⟨tk,0,none⟩=some (.pointer (some ⟨p,0,none⟩))∧w3.cell? ⟨tk,8,none⟩=some vE:=⟨hbx3.out.cell 0,hbk3.out.cell 0,hbk3.out.cell 8⟩
 refine hK.out _ _ (fun _=>S3) ?_
 clear hK K S2 KG ho3 hg3 N1
 try simp only[Act.put,sAp,sA0,sAs]
 refine hfRdy 13 (by kernel_rfl) rfl fun K hK=>?_
 go_simp
 refine hK.out _ _ (fun _=>S3) ?_
 clear hK K
 try simp only[Act.put,sAp,sA0,sAs]
 refine hfRdy 14 (by kernel_rfl) rfl fun K hK=>?_
 go_simp
 refine hK.out _ _ (fun _=>S3) ?_
 clear hK K
 try simp only[Act.put,sAp,sA0,sAs]
 refine hfRdy 15 (by kernel_rfl) rfl fun K hK=>?_
 go_simp
 refine hK.out _ _ (fun _=>S3) ?_
 clear hK K
 try simp only[Act.put,sAp,sA0,sAs]
 refine hfRdy 16 (by kernel_rfl) rfl fun K hK=>?_
 obtain⟨s1,s2,s3⟩:=S3
 have f3:=hbk3.out.frozen 8
 go_simp
 refine hK.out _ _ (fun h=>absurd rfl h) ?_
 clear hK K
 try simp only[Act.put,sAp,sA0,sAs]
 refine wpAnyF_done (by kernel_rfl) ?_ _
 have hbkE:=zh (hbk3.out.set_ 8 (.slice A3 (en.length+1) k3))
 have KTE:=zh (KT3.out.setCell hbk3.out (i:=8) (by decide) (.slice A3 (en.length+1) k3))
 have BBE:=zh (BB3.out.setCell (p:=⟨tk,8,none⟩) hB.1 (.slice A3 (en.length+1) k3))
 have KS:=(KeepB.refl (fun t=>t==193) w3).setCell hbk3.out (i:=8) (by decide) (.slice A3 (en.length+1) k3)
 have hrE:=zh (hr3.out.keepB KS ⟨by decide,by decide,by decide,by decide,by decide⟩)
 have hdE:=zh (show RdIs rdT (w3.setCell ⟨tk,8,none⟩ (.slice A3 (en.length+1) k3)) p s st' by
  obtain⟨a,bd,q1,q2,q3⟩:=h23.out
  exact⟨a,bd,q1.keepB KS (by decide),q2,q3⟩)
 clear KS
 go_wp2_with fail
 go_end0
 exact⟨rfl,x,st',_,h1.out,h4.out,hdE.out,hbkE.out,hrE.out,KTE.out,BBE.out⟩
end Go.Proofs.YtceflhffilldeaaGreat
