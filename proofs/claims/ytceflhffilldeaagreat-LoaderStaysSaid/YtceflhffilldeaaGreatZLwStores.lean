/-
  Joined: ZLwStores.
-/
import Derived.Test.YtceflhffilldeaaGreatZPlays
import Derived.Test.YtceflhffilldeaaGreatZLdTop
set_option linter.unusedVariables false
set_option linter.unusedSimpArgs false
set_option maxRecDepth 100000
set_option maxHeartbeats 16000000
namespace Go.Proofs.YtceflhffilldeaaGreat
open Go.RowKit Go.Maps Go.WideMaps Plays ObjL Ldr
abbrev BA:=ByteArray
def fileIs (w:World) (f:BA×BA) (j:Nat) (x:Value):Prop:=(j=0→x=.string f.1)∧(j=1→x=.string f.2)
def FRow (w:World) (v:Value) (l:List (BA×BA)):Prop:=RowOf 2 fileIs w v l
theorem FRow.below {w w':World} {v:Value} {l:List (BA×BA)} (h:FRow w v l) (hb:Below w.heap.size w w'):FRow w' v l:=RowOf.below h hb fun x _ j y hy=>hy
def fileAt (l:List (BA×BA)) (k:Nat):BA×BA:=l.getD k (⟨#[]⟩,⟨#[]⟩)
def stN (l:List (BA×BA)) (k:Nat):List BA×List BA:=iter (fun i s=>(putN s.1 s.2 (fileAt l i).1 (fileAt l i).2).2) ([],[]) k
def stD (l:List (BA×BA)) (k:Nat):DataW Unit:=iter (fun i D=>(putD D (fileAt l i).1 (fileAt l i).2).2) (.map []) k
def sumF (l:List (BA×BA)) (k:Nat):Int:=iter (fun i n=>IntKind.i64.wrap (n+IntKind.i64.wrap (((fileAt l i).2.size:Int)+((fileAt l i).1.size:Int)))) 0 k
def TOk (T:List BA):Prop:=∀ t∈T,t.size≤131072
theorem tok_put {N T:List BA} (h:TOk T) (s t:BA):TOk (putN N T s t).2.2:=by
 unfold putN
 split
 ·exact h
 ·split
  ·exact h
  ·rename_i h2
   have ht:t.size≤131072:=by omega
   split
   ·intro x hx
    rcases List.mem_or_eq_of_mem_set hx with hx | hx
    ·exact h x hx
    ·rw[hx];exact ht
   ·split
    ·exact h
    ·intro x hx
     simp only[List.mem_append,List.mem_singleton] at hx
     rcases hx with (hx | hx) | hx
     ·exact h x (List.mem_of_mem_take hx)
     ·rw[hx];exact ht
     ·exact h x (List.mem_of_mem_drop hx)
theorem st_rel (l:List (BA×BA)):∀ k,Rel (stD l k) (stN l k).1 (stN l k).2∧TOk (stN l k).2
 | 0=>⟨Rel.empty,fun t ht=>by cases ht⟩
 | k+1=>by
  obtain⟨h1,h2⟩:=st_rel l k
  exact⟨(put_same h1 _ _).2,tok_put h2 _ _⟩
def storeG (N T:List BA):Files:=fun nm=>if (gotN N T (txt nm)).2=true then some (gotN N T (txt nm)).1.data.toList else none
theorem tok_got {N T:List BA} (h:TOk T) (s:BA):(gotN N T s).1.size≤131072:=by
 unfold gotN
 dsimp only
 split
 ·rw[List.getD_eq_getElem?_getD]
  cases hx:T[(plc s N).1]? with
  | none=>show (⟨#[]⟩:BA).size≤131072;decide
  | some t=>exact h t (List.mem_of_getElem? hx)
 ·show (⟨#[]⟩:BA).size≤131072;decide
theorem getOk_of {B p q n:Nat} {W:World} {m v u:Value} {D:DataW Unit} {N T:List BA} (h:Both B W p q m n D v u N T) (hr:Rel D N T) (hT:TOk T):GetOk (storeG N T) W.heap.size p W:=by
 intro w hb nm hnm
 have hb':=h.below hb
 have hs:(txt nm).size≤9223372036854775807:=by rw[txt_size];omega
 have key:∀ (b:Bool) (t:BA),(t,b)=gotN N T (txt nm)→∃ t',Value.tuple #[.string t,.bool b]=.tuple #[.string (txt t'),.bool (storeG N T nm).isSome]∧(storeG N T nm=some t'∨storeG N T nm=none)∧t'.length≤131072:=by
  intro b t e
  have hz:=tok_got hT (N:=N) (txt nm)
  have e1:t=(gotN N T (txt nm)).1:=by rw[← e]
  have e2:b=(gotN N T (txt nm)).2:=by rw[← e]
  refine⟨t.data.toList,?_,?_,?_⟩
  ·rw[txt_of]
   unfold storeG
   rw[e2]
   cases (gotN N T (txt nm)).2<;>rfl
  ·unfold storeG
   rw[← e1,← e2]
   cases b
   ·exact Or.inr rfl
   ·exact Or.inl rfl
  ·rw[← e1] at hz
   have:t.data.toList.length=t.size:=by rw[Array.length_toList];rfl
   omega
 cases h1:nameOk (txt nm) with
 | false=>
  refine(store_get_bad (txt nm) _ w hs h1).mono ?_
  rintro e w' ⟨rfl,hb2⟩
  have hp:=plc_bad hr (txt nm) h1
  obtain⟨t',x1,x2,x3⟩:=key false ⟨#[]⟩ (by unfold gotN;rw[hp];rfl)
  exact⟨⟨t',by rw[x1],x2,x3⟩,hb2⟩
 | true=>
  refine(store_get (txt nm) p n m D w hs hb'.blk hb'.map h1).mono ?_
  rintro e w' ⟨⟨t,rfl,ht⟩,hb2⟩
  obtain⟨t',x1,x2,x3⟩:=key _ t (gotN_of hr (txt nm) t h1 ht)
  exact⟨⟨t',by rw[x1],x2,x3⟩,hb2⟩
def SideF (B:Nat) (W:World) (p q:Nat) (l:List (BA×BA)) (k:Nat):Prop:=∃ m n v u,Both B W p q m n (stD l k) v u (stN l k).1 (stN l k).2∧n≤100+k
theorem sideF_start (w:World) (l:List (BA×BA)):SideF w.heap.size ((w.alloc (.cells #[.map none] 101)).alloc (.cells #[.slice none 0 0,.slice none 0 0] 76)) w.heap.size (w.heap.size+1) l 0:=by
 have e1:(w.alloc (.cells #[.map none] 101)).heap.size=w.heap.size+1:=by simp
 have b2:=Blk.new (w.alloc (.cells #[.map none] 101)) 76 #[.slice none 0 0,.slice none 0 0]
 rw[e1] at b2
 exact⟨.map none,0,_,_,⟨(Blk.new w _ _).alloc _,Or.inl ⟨rfl,rfl⟩,⟨b2,World.ownsRow_nil _ _ _ _,World.ownsRow_nil _ _ _ _,rfl,by simp[stN,iter],(fun k hk=>by cases hk),(fun k hk=>by cases hk),(fun k hk=>by cases hk)⟩,
  Nat.le_refl _,by omega,(fun b hb=>by cases hb),(fun b hb=>by cases hb),(fun b hb=>by cases hb),by simp[stN,iter],by omega⟩,by omega⟩
def StoresEnd (w:World) (l:List (BA×BA)) (e:Ending) (w':World):Prop:=
 ∃ p q k ok,e=.returned (.tuple #[.pointer (some ⟨p,0,none⟩),.pointer (some ⟨q,0,none⟩),.bool ok])∧SideF w.heap.size w' p q l k∧Below w.heap.size w w'∧(ok=true→k=min l.length 70)∧(ok=false→∃ j,j<min l.length 70∧400000<sumF l (j+1))
theorem law26_stores (l:List (BA×BA)) (vs:Value) (w:World) (hv:FRow w vs l) (hsz:∀ x∈l,x.1.size≤9223372036854775807∧x.2.size≤9223372036854775807) :
  Calls Tryz.prog 8 #[vs] w (StoresEnd w l):=by
 have hv':=zh hv
 obtain⟨hm,A,c,rfl,-⟩:=hv
 have hsz':=zh hsz
 clear hsz
 have SS:=zh (sideF_start w l)
 go_enter Tryz.func8,Tryz.ntmps8
 go_wp2_with fail
 refine(store_new _).mono ?_
 rintro e w1 ⟨rfl,rfl⟩
 go_wp2_with fail
 have B0:Below w.heap.size w ((w.alloc (.cells #[.map none] 101)).alloc (.cells #[.slice none 0 0,.slice none 0 0] 76)):=((Below.refl _ _).alloc (Nat.le_refl _) _).alloc (by simp) _
 have B0:=zh B0
 generalize (w.alloc (.cells #[.map none] 101)).alloc (.cells #[.slice none 0 0,.slice none 0 0] 76)=W0 at *
 go_loopw [7,8] (fun nv iv wr=>∃ k:Nat,iv=.int .i64 k∧nv=.int .i64 (sumF l k)∧k≤l.length∧k≤70∧Hid (SideF w.heap.size wr w.heap.size (w.heap.size+1) l k)∧Hid (Below w.heap.size w wr)) (fun _ iv _=>70-(intOf iv).toNat)
 case atStart=>exact⟨0,rfl,rfl,by omega,by omega,SS,B0⟩
 case round=>
  clear SS B0
  obtain⟨k,rfl,rfl,hk,hk7,hS,hB⟩:=hrel
  by_cases hlt:(k:Int)<(l.length:Int)
  ·by_cases hl2:(k:Int)<70
   ·obtain⟨-,A1,c1,e1,hc⟩:=hv'.out
    injection e1 with e1 _ e2
    subst e1 e2
    obtain⟨ad,rfl,hadw,x01⟩:=hc k (by omega)
    obtain⟨y0,x0,q0⟩:=x01 0 (by decide)
    obtain⟨y1,x1,q1⟩:=x01 1 (by decide)
    obtain rfl:=q0.1 rfl
    obtain rfl:=q1.2 rfl
    obtain⟨s1,s2⟩:=hsz'.out _ (List.getElem_mem (show k<l.length by omega))
    have hfk:fileAt l k=l[k]:=by unfold fileAt;rw[List.getD_eq_getElem?_getD,List.getElem?_eq_getElem (by omega)];rfl
    have hsum:Hid (sumF l (k+1)=IntKind.i64.wrap (sumF l k+IntKind.i64.wrap ((l[k].2.size:Int)+(l[k].1.size:Int)))):=zh (by rw[← hfk];rfl)
    have hN1:Hid (stN l (k+1)=(putN (stN l k).1 (stN l k).2 l[k].1 l[k].2).2):=zh (by rw[← hfk];rfl)
    have hD1:Hid (stD l (k+1)=(putD (stD l k) l[k].1 l[k].2).2):=zh (by rw[← hfk];rfl)
    clear hc x01 q0 q1 hfk
    generalize l[k].1=nm at *
    generalize l[k].2=tx at *
    have hcl:Hid (∀ W',Below w.heap.size w W'→W'.cell? (ad.add (k*2))=some (.string nm)∧W'.cell? ⟨(ad.add (k*2)).block,(ad.add (k*2)).off+1,none⟩=some (.string tx)):=zh fun W' hb=>⟨(hb.cell (p:=ad.add (k*2)) (by rw[block_add];exact hadw)).trans x0,(hb.cell (p:=⟨(ad.add (k*2)).block,(ad.add (k*2)).off+1,none⟩) (by show (ad.add (k*2)).block<_;rw[block_add];exact hadw)).trans x1⟩
    clear x0 x1
    obtain⟨x0,x1⟩:=hcl.out wr hB.out
    generalize sumF l k=z at *
    go_upto_region 6 with fail
    refine region_drew 15 (by kernel_rfl) (by kernel_rfl) ?_
    simp only[List.take_succ_cons,List.take_zero,List.drop_succ_cons,List.drop_zero]
    repeat still_step
    refine wpStill_nil ?_
    generalize hz2:IntKind.i64.wrap (z+IntKind.i64.wrap ((tx.size:Int)+(nm.size:Int)))=z2 at *
    have hz2h:=zh hz2
    clear hz2
    have hBd:=zh hB.out.drew
    obtain⟨m0,n0,v0,u0,hb0,hn0⟩:=hS.out
    have hb:=zh hb0.drew
    obtain⟨hr0,ht0⟩:=st_rel l k
    have P1:=zh (both_put1 hb0.drew.drew nm tx s1 (by omega))
    have hps:=put_same hr0 nm tx
    have P2':∀ {W m n v u},Both w.heap.size W w.heap.size (w.heap.size+1) m n (putD (stD l k) nm tx).2 v u (stN l k).1 (stN l k).2→Hid (Calls Tryz.prog 26 #[.pointer (some ⟨w.heap.size+1,0,none⟩),.string nm,.string tx] W fun e w'=>e=.returned (.int .i64 (putD (stD l k) nm tx).1)∧∃ v' u',Both w.heap.size w' w.heap.size (w.heap.size+1) m n (putD (stD l k) nm tx).2 v' u' (putN (stN l k).1 (stN l k).2 nm tx).2.1 (putN (stN l k).1 (stN l k).2 nm tx).2.2∧Below w.heap.size W w'∧KeepX W w'):=fun h=>zh (by
     have:=both_put2 h hr0.sorted nm tx s1
     rw[hps.1] at this
     exact this)
    clear hb0 hS hr0 ht0 hps
    have hadB:ad.block<w.heap.size:=hadw
    have hcell:Hid (∀ W',Below w.heap.size w W'→W'.cell? (ad.add (k*2))=some (.string nm)∧W'.cell? ⟨(ad.add (k*2)).block,(ad.add (k*2)).off+1,none⟩=some (.string tx)):=hcl
    clear x0 x1 hB
    generalize wr.drew=wd at *
    go_upto_region 7 with fail
    by_cases hbig:400000<z2
    ·go_wp2_with fail
     refine bodyPost_ret (v:=.tuple #[.pointer (some ⟨w.heap.size,0,none⟩),.pointer (some ⟨w.heap.size+1,0,none⟩),.bool false]) (by simp only[results,Tryz.results8];go_simp) rfl ?_
     exact⟨_,_,k,false,rfl,⟨m0,n0,v0,u0,hb.out,hn0⟩,hBd.out,(fun h=>by cases h),fun _=>⟨k,by omega,by rw[hsum.out];exact hbig⟩⟩
    ·go_upto_region 9 with fail
     have B9:=hBd.out
     obtain⟨c1,c2⟩:=hcell.out wd.drew B9.drew
     go_region_held3 (fun w'=>w'.cell? (ad.add (k*2))=some (.string nm)∧w'.cell? ⟨(ad.add (k*2)).block,(ad.add (k*2)).off+1,none⟩=some (.string tx)) (first | exact⟨c1,c2⟩ | exact⟨y1,y2⟩ | exact⟨z1,z2'⟩)
      (first
       | (go_at_call 20;refine P1.out.mono ?_;rintro e w2 ⟨rfl,m2,n2,hb2,hn2,hB2,hx2⟩;obtain⟨y1,y2⟩:=hcell.out w2 (hBd.out.drew.trans hB2);have hb2:=zh hb2;have hB2:=zh (hBd.out.drew.trans hB2);clear hx2)
       | (go_at_call 26;refine(P2' hb2.out).out.mono ?_;rintro e w3 ⟨rfl,v3,u3,hb3,hB3,hx3⟩;obtain⟨z1,z2'⟩:=hcell.out w3 (hB2.out.trans hB3);have hb3:=zh hb3;have hB3:=zh (hB2.out.trans hB3);clear hx3))
     have hSn:Hid (SideF w.heap.size w3 w.heap.size (w.heap.size+1) l (k+1)):=zh ⟨m2,n2,v3,u3,by rw[hD1.out,hN1.out];exact hb3.out,by omega⟩
     have hs2:=hsum.out
     clear z1 z2' y1 y2 c1 c2 P1 P2' hcell hcl
     go_wp2_with fail
     exact⟨⟨k+1,by go_num,by rw[hs2],by omega,by omega,hSn,hB3⟩,by simp[intOf];omega⟩
   ·obtain rfl:k=70:=by omega
    go_wp2_with fail
    refine bodyPost_ret (v:=.tuple #[.pointer (some ⟨w.heap.size,0,none⟩),.pointer (some ⟨w.heap.size+1,0,none⟩),.bool true]) (by simp only[results,Tryz.results8];go_simp) rfl ?_
    exact⟨_,_,70,true,rfl,hS.out,hB.out,(fun _=>by omega),fun h=>by cases h⟩
  ·obtain rfl:k=l.length:=by omega
   go_wp2_with fail
   refine bodyPost_ret (v:=.tuple #[.pointer (some ⟨w.heap.size,0,none⟩),.pointer (some ⟨w.heap.size+1,0,none⟩),.bool true]) (by simp only[results,Tryz.results8];go_simp) rfl ?_
   exact⟨_,_,l.length,true,rfl,hS.out,hB.out,(fun _=>by omega),fun h=>by cases h⟩
end Go.Proofs.YtceflhffilldeaaGreat
