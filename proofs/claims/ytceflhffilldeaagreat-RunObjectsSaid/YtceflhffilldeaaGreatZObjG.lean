/-
  Joined: ZObjG.
-/
import Derived.Test.YtceflhffilldeaaGreatZRider
import Derived.Lib.ConvBytes
import Derived.Test.YtceflhffilldeaaGreatZFix
import Derived.Test.YtceflhffilldeaaGreatZRiscDec
import Derived.Maps.Keyed
import Derived.Maps.OwnSet
import Derived.Maps.Ext
import Derived.StringKeys
set_option linter.unusedVariables false
set_option linter.unusedSimpArgs false
set_option maxRecDepth 100000
set_option maxHeartbeats 16000000
namespace Go.Proofs.YtceflhffilldeaaGreat
open Go.RowKit ObjL
namespace ObjL
def alnum (c:Int):Bool:=decide (97≤c∧c≤122) || decide (65≤c∧c≤90) || decide (48≤c∧c≤57)
def alpha (c:Int):Bool:=decide (97≤c∧c≤122) || decide (65≤c∧c≤90)
def wordT (t:List UInt8):Bool:=decide (1≤t.length) && decide (t.length≤24) && alpha ((t.headD 0).toNat:Int) && t.all fun c=>alnum (c.toNat:Int)
end ObjL
theorem og_ret {a b:Bool} (h:a=b):Ending.returned (Value.bool a)=Ending.returned (Value.bool b):=by rw[h]
theorem below_any (n most:Int) (w:World):Calls Tryz.prog 171 #[.int .i64 n,.int .i64 most] w fun e w'=>e=.returned (.bool (decide (0≤n∧n<most)))∧w=w':=by
 by_cases h0:0≤n
 ·go_enter Tryz.func171,Tryz.ntmps171
  go_wp2_with fail
  go_ret
  exact⟨og_ret (by simp[h0]),rfl⟩
 ·go_enter Tryz.func171,Tryz.ntmps171
  go_wp2_with fail
  go_ret
  exact⟨og_ret (by simp;omega),rfl⟩
theorem named1 (c:Int) (w:World) (h0:0≤c) (h1:c≤255):Calls Tryz.prog 181 #[.int .u8 c] w fun e w'=>e=.returned (.bool (!alnum c))∧w=w':=by
 go_enter Tryz.func181,Tryz.ntmps181
 go_wp2_with fail
 all_goals
  go_ret
  refine⟨og_ret ?_,rfl⟩
  rw[Bool.eq_iff_iff]
  unfold alnum
  simp<;>omega
def IdxRes (b:Bool) (w:World) (e:Ending) (w':World):Prop:=∃ i:Int,e=.returned (.int .i64 i)∧decide (0≤i)=b∧w=w'
theorem index_u8 (l:List Int) (v:Value) (w:World) (hr:Row .u8 w v l) (hb:∀ x∈l,0≤x∧x≤255) :
  Calls Tryz.prog 184 #[v,.func (.func 181) #[] #[]] w (IdxRes (l.any fun x=>!alnum x) w):=by
 obtain⟨hm,A,c,rfl,hc⟩:=hr
 have hc:=zh hc
 have hb:=zh hb
 go_enter Tryz.func184,Tryz.ntmps184
 go_wp2_with fail
 go_loop [8] (fun i=>∃ k:Nat,i=.int .i64 k∧k≤l.length∧Hid (∀ j (hj:j<k) (hl:j<l.length),alnum l[j]=true)) (fun i=>l.length-(intOf i).toNat)
 case atStart=>exact⟨0,rfl,by omega,zh (fun j hj=>by omega)⟩
 case round=>
  obtain⟨k,rfl,hk,hall⟩:=hrel
  by_cases hlt:k<l.length
  ·have hlt':(k:Int)<l.length:=by omega
   obtain⟨ad,rfl,-,hx⟩:=hc.out k hlt
   have hgd:l.getD k 0=l[k]:=by simp[List.getD,hlt]
   rw[hgd] at hx
   have hbk:=hb.out _ (List.getElem_mem hlt)
   have hN:=zh (named1 l[k] w hbk.1 hbk.2)
   cases ha:alnum l[k]
   ·have hres:Hid (l.any (fun x=>!alnum x)=true):=zh (by rw[List.any_eq_true];exact⟨l[k],List.getElem_mem hlt,by rw[ha];rfl⟩)
    rw[ha] at hN
    clear hgd hbk ha hall
    generalize l[k]=y at *
    go_wp2_with fail
    refine hN.out.mono ?_
    rintro e w1 ⟨rfl,rfl⟩
    go_wp2_with fail
    go_ret
    exact⟨k,rfl,by rw[hres.out];simp,rfl⟩
   ·have hnext:Hid (∀ j (hj:j<k+1) (hl:j<l.length),alnum l[j]=true):=zh (fun j hj hl=>by
     rcases Nat.lt_or_ge j k with h | h
     ·exact hall.out j h hl
     ·obtain rfl:j=k:=by omega
      exact ha)
    rw[ha] at hN
    clear hgd hbk ha hall
    generalize l[k]=y at *
    go_wp2_with fail
    refine hN.out.mono ?_
    rintro e w1 ⟨rfl,rfl⟩
    go_wp2_with fail
    go_round
    case rel=>exact⟨k+1,by go_num,by omega,hnext⟩
    case measure=>simp[intOf];omega
  ·obtain rfl:k=l.length:=by omega
   have hres:Hid (l.any (fun x=>!alnum x)=false):=zh (by
    rw[List.any_eq_false]
    intro x hx
    obtain⟨j,hj,rfl⟩:=List.getElem_of_mem hx
    rw[hall.out j hj hj];simp)
   clear hall
   go_wp2_with fail
   go_ret
   exact⟨-1,rfl,by rw[hres.out];simp,rfl⟩
theorem contains_u8 (l:List Int) (v:Value) (w:World) (hr:Row .u8 w v l) (hb:∀ x∈l,0≤x∧x≤255) :
  Calls Tryz.prog 180 #[v,.func (.func 181) #[] #[]] w fun e w'=>e=.returned (.bool (l.any fun x=>!alnum x))∧w=w':=by
 have IX:=zh (index_u8 l v w hr hb)
 clear hr hb
 generalize (l.any fun x=>!alnum x)=b at *
 go_enter Tryz.func180,Tryz.ntmps180
 go_wp2_with fail
 refine IX.out.mono ?_
 rintro e w1 ⟨i,rfl,hi,rfl⟩
 have hi:=zh hi
 go_wp2_with fail
 go_ret
 first | exact⟨rfl,rfl⟩ | exact⟨og_ret hi.out,rfl⟩
theorem bytes_row (w:World) (t:List UInt8) (h:t.length≤1000000):Row .u8 (Go.Lib.bytesWorld w 5 (txt t)) (.slice (some ⟨w.heap.size,0,none⟩) (txt t).size (grownCap w (txt t).size 0 5)) (t.map fun c=>(c.toNat:Int)):=by
 refine⟨by simp;omega,some ⟨w.heap.size,0,none⟩,grownCap w (txt t).size 0 5,by rw[List.length_map,← txt_size t],fun k hk=>⟨⟨w.heap.size,0,none⟩,rfl,by rw[Go.Lib.bytesWorld_size];simp,?_⟩⟩
 have hk':k<t.length:=by simpa using hk
 have e:(⟨w.heap.size,0,none⟩:Addr).add k=⟨w.heap.size,k,none⟩:=by unfold Addr.add;split<;>simp_all
 rw[e,Go.Lib.bytesWorld_cell w _ _ k (by rw[txt_size];exact hk'),txt_data]
 simp[List.getD,hk']
theorem bytes_below (w:World) (e:TypeId) (s:ByteArray):Below w.heap.size w (Go.Lib.bytesWorld w e s):=
 ⟨rfl,rfl,rfl,by rw[Go.Lib.bytesWorld_size];omega,fun k hk=>Go.Lib.bytesWorld_at_old w e s k hk⟩
theorem wordT_any (t:List UInt8):(t.map fun c=>(c.toNat:Int)).any (fun x=>!alnum x)=!(t.all fun c=>alnum (c.toNat:Int)):=by
 rw[List.any_map]
 induction t with
 | nil=>rfl
 | cons a t ih=>simp only[List.any_cons,List.all_cons,Function.comp,Bool.not_and] at ih ⊢;rw[ih]
theorem obj_named (t:List UInt8) (w:World) (hl:t.length≤9223372036854775807) :
  Calls Tryz.prog 170 #[.string (txt t)] w fun e w'=>e=.returned (.bool (wordT t))∧Below w.heap.size w w':=by
 have hsz:=txt_size t
 by_cases h1:t.length=0
 ·obtain rfl:t=[]:=List.eq_nil_of_length_eq_zero h1
  have e:txt []=⟨#[]⟩:=rfl
  rw[e]
  clear h1 hl hsz e
  go_enter Tryz.func170,Tryz.ntmps170
  go_wp2_with fail
  go_ret
  exact⟨rfl,Below.refl _ _⟩
 have hne:((txt t).toList==[])=false:=by
  rw[ByteArray.toList_eq,txt_data,beq_eq_false_iff_ne]
  intro e;rw[e] at h1;simp at h1
 by_cases h2:24<t.length
 ·have hW:wordT t=false:=by
   unfold wordT
   rw[decide_eq_false (show ¬ t.length≤24 by omega)]
   simp
  rw[hW]
  have h2':(24:Int)<t.length:=by omega
  clear hW
  go_enter Tryz.func170,Tryz.ntmps170
  go_wp2_with fail
  go_ret
  exact⟨rfl,Below.refl _ _⟩
 ·obtain⟨a,r,rfl⟩:∃ a r,t=a::r:=by
   cases t with
   | nil=>exact absurd rfl h1
   | cons a r=>exact⟨a,r,rfl⟩
  have ha:=a.toNat_lt
  have hidx:∀ h,((txt (a::r))[0]'h)=a:=fun h=>by
   rfl
  have h2':¬ (24:Int)<(r.length:Int)+1:=by simp only[List.length_cons] at h2;omega
  have hpos:(0:Int)<(r.length:Int)+1:=by omega
  have hW:wordT (a::r)=(alpha (a.toNat:Int) && (a::r).all fun c=>alnum (c.toNat:Int)):=by
   unfold wordT
   rw[decide_eq_true (show 1≤(a::r).length by simp),decide_eq_true (show (a::r).length≤24 by omega)]
   simp
  by_cases h9:a.toNat≤57
  ·have hal:alpha (a.toNat:Int)=false:=by
    unfold alpha
    simp;omega
   rw[hW,hal]
   have h9':(a.toNat:Int)≤57:=by omega
   clear hW hal ha
   go_enter Tryz.func170,Tryz.ntmps170
   go_wp2_with fail
   go_ret
   exact⟨rfl,Below.refl _ _⟩
  ·have hres:wordT (a::r)=!((a::r).map fun c=>(c.toNat:Int)).any (fun x=>!alnum x):=by
    rw[hW,wordT_any,Bool.not_not]
    cases hall:((a::r).all fun c=>alnum (c.toNat:Int))
    ·simp
    ·have:alnum (a.toNat:Int)=true:=by simp at hall;exact hall.1
     have hal:alpha (a.toNat:Int)=true:=by
      unfold alnum at this
      unfold alpha
      simp at this ⊢
      omega
     rw[hal];rfl
   rw[hres]
   have hrow:=bytes_row w (a::r) (by omega)
   have hconv:=Go.Lib.run_convert_string_bytes (P:=Tryz.prog) w 9 86 5 (txt (a::r)) Tryz.underlying9 Tryz.underlying86 Tryz.underlying5
   have CF:=zh (contains_u8 _ _ _ hrow (fun x hx=>by obtain⟨c,_,rfl⟩:=List.mem_map.1 hx;have:=c.toNat_lt;omega))
   have hbel:=zh (bytes_below w 5 (txt (a::r)))
   have h9':¬ (a.toNat:Int)≤57:=by omega
   clear hW hres hrow ha
   generalize Go.Lib.bytesWorld w 5 (txt (a::r))=W at *
   generalize (List.any (List.map (fun c=>(c.toNat:Int)) (a::r)) fun x=>!alnum x)=b at *
   go_enter Tryz.func170,Tryz.ntmps170
   go_wp2_with fail
   refine CF.out.mono ?_
   rintro e w1 ⟨rfl,rfl⟩
   go_wp2_with fail
   go_ret
   exact⟨rfl,hbel.out⟩
end Go.Proofs.YtceflhffilldeaaGreat
namespace Go.Proofs.YtceflhffilldeaaGreat
open Go.RowKit ObjL
namespace ObjL
def most (o:Ob) (own:Bool) (sort:Int):Int:=
 if own=true then (if sort=1 then o.data+o.strings.length / 4 else if sort=3 then o.descs.length else o.entries.length)
 else (if sort=1 then 4096 else 64)
def linkOk (o:Ob) (call:Bool) (a b:Int):Bool:=
 (call==(Fx.sort a==0)) && (!call || Fx.reg a==0) && decide (Fx.mod a≤o.uses.length) && decide (b<most o (Fx.mod a==0) (Fx.sort a))
def mark (ok:Nat→Bool):List Int→List Bool→Option (List Bool)
 | [],t=>some t
 | p::l,t=>if t.getD p.toNat false=true∨t.getD (p.toNat+1) false=true∨ok p.toNat=false then none else mark ok l ((t.set p.toNat true).set (p.toNat+1) true)
def okAt (o:Ob) (call:Bool) (p:Nat):Bool:=linkOk o call (o.code.getD p 0) (o.code.getD (p+1) 0)
def linksOf (o:Ob):Option (List Bool):=
 match Fx.chain o.code o.calls with
 | none=>none
 | some l1=>match mark (okAt o true) l1 (List.replicate o.code.length false) with
  | none=>none
  | some t1=>match Fx.chain o.code o.places with
   | none=>none
   | some l2=>mark (okAt o false) l2 t1
def codedB (o:Ob):Bool:=
 match linksOf o with
 | none=>false
 | some t=>(List.range o.code.length).all fun i=>t.getD i false || Ins.isIns (o.code.getD i 0)
def namesB (o:Ob):Bool:=wordT o.name && decide (o.uses.length≤16) && (o.uses.all fun u=>wordT u.1 && decide (u.1≠o.name)) && decide (o.uses.map (·.1)).Nodup
def descB? (o:Ob) (i:Nat) (d:Int×List (Int×Int)):Bool:=
 decide (0≤d.1∧d.1≤32768) && decide (d.1 % 4=0) && decide (1≤d.2.length∧d.2.length≤5) && decide (d.2.getLast?=some (0,(i:Int))) && d.2.all fun e=>decide (0≤e.1∧e.1≤o.uses.length) && decide (0≤e.2∧e.2<64)
def descsB (o:Ob):Bool:=decide (o.descs.length≤64) && (List.range o.descs.length).all fun i=>descB? o i (o.descs.getD i (0,[]))
def boundsB (o:Ob):Bool:=decide (0≤o.data∧o.data≤4096) && decide (o.strings.length≤32768) && decide (o.strings.length % 4=0) && decide (o.code.length≤8192) && decide (1≤o.entries.length∧o.entries.length≤64)
def entriesB (o:Ob):Bool:=o.entries.all fun e=>decide (0≤e∧e<o.code.length)
def wordsB (o:Ob):Bool:=word o.key && (o.uses.all fun u=>word u.2) && o.code.all word
def goodO (o:Ob):Bool:=wordsB o && namesB o && descsB o && boundsB o && entriesB o && codedB o
theorem wordT_text {t:List UInt8} (h:wordT t=true):textOk t=true:=by
 unfold wordT at h
 simp only[Bool.and_eq_true,decide_eq_true_eq,List.all_eq_true] at h
 unfold textOk
 simp only[Bool.and_eq_true,decide_eq_true_eq,Bool.not_eq_true']
 refine⟨by omega,?_⟩
 cases hc:t.contains 0
 ·rfl
 ·have:=h.2 0 (List.contains_iff_mem.1 hc)
  revert this
  decide
theorem chain_head {code l:List Int} {head:Int} (h:Fx.chain code head=some l):head=-1∨0≤head∧head<(code.length:Int)-1:=by
 unfold Fx.chain at h
 split at h
 ·exact Or.inl ‹_›
 ·rw[Fx.go] at h
  split at h
  ·cases h
  ·omega
theorem fits_of {n:Int} (h1:-1≤n) (h2:n≤1000000):fits n=true:=by
 unfold fits
 simp only[Bool.and_eq_true,decide_eq_true_eq]
 omega
theorem good_wr {o:Ob} (h:goodO o=true):WrOk o:=by
 unfold goodO wordsB namesB descsB boundsB entriesB at h
 simp only[Bool.and_eq_true,decide_eq_true_eq,List.all_eq_true] at h
 obtain⟨⟨⟨⟨⟨⟨⟨hk,huw⟩,hcw⟩,⟨⟨⟨hn,hu16⟩,hun⟩,hnd⟩⟩,⟨hd64,hdd⟩⟩,⟨⟨⟨⟨hda,hs1⟩,hs2⟩,hc1⟩,he1⟩⟩,hee⟩,hco⟩:=h
 have hch:(∃ l,Fx.chain o.code o.calls=some l)∧∃ l,Fx.chain o.code o.places=some l:=by
  unfold codedB linksOf at hco
  split at hco
  ·cases hco
  ·rename_i t ht
   split at ht
   ·cases ht
   ·rename_i l1 h1
    split at ht
    ·cases ht
    ·split at ht
     ·cases ht
     ·rename_i l2 h2
      exact⟨⟨l1,h1⟩,l2,h2⟩
 obtain⟨⟨l1,h1⟩,l2,h2⟩:=hch
 have c1:=chain_head h1
 have c2:=chain_head h2
 refine⟨wordT_text hn,hk,hu16,fun u hu=>⟨wordT_text (hun u hu).1,huw u hu⟩,hd64,fun d hd=>?_,fits_of (by omega) (by omega),hs1,hc1,hcw,he1.2,fun x hx=>?_,fits_of (by omega) (by omega),fits_of (by omega) (by omega)⟩
 ·obtain⟨i,hi,rfl⟩:=List.getElem_of_mem hd
  have:=hdd i (List.mem_range.2 hi)
  have e:o.descs.getD i (0,[])=o.descs[i]:=by simp[List.getD,hi]
  rw[e] at this
  unfold descB? at this
  simp only[Bool.and_eq_true,decide_eq_true_eq,List.all_eq_true] at this
  obtain⟨⟨⟨⟨a1,a2⟩,a3⟩,a4⟩,a5⟩:=this
  exact⟨fits_of (by omega) (by omega),a3.2,fun e he=>⟨fits_of (by have:=(a5 e he).1;omega) (by have:=(a5 e he).1;omega),fits_of (by have:=(a5 e he).2;omega) (by have:=(a5 e he).2;omega)⟩⟩
 ·have:=hee x hx
  exact fits_of (by omega) (by omega)
end ObjL
end Go.Proofs.YtceflhffilldeaaGreat
namespace Go.Proofs.YtceflhffilldeaaGreat
namespace ObjL
abbrev Lft:=Option (List UInt8)
def Took {α:Type} (rd:List UInt8→Option (α×List UInt8)) (st:Lft) (x:α) (st':Lft):Prop:=st.bind rd=st'.map fun r=>(x,r)
theorem Took.next {α β:Type} {rd:List UInt8→Option (α×List UInt8)} {st st':Lft} {x:α} (h:Took rd st x st') (F:α×List UInt8→Option β):(st.bind fun s=>(rd s).bind F)=st'.bind fun r=>F (x,r):=by
 have e:(st.bind fun s=>(rd s).bind F)=(st.bind rd).bind F:=by cases st<;>rfl
 rw[e,h]
 cases st'<;>rfl
theorem Took.bad {α:Type} (rd:List UInt8→Option (α×List UInt8)) (x:α):Took rd none x none:=rfl
theorem Took.yes {α:Type} {rd:List UInt8→Option (α×List UInt8)} {s r:List UInt8} {x:α} (h:rd s=some (x,r)):Took rd (some s) x (some r):=h
theorem Took.no {α:Type} {rd:List UInt8→Option (α×List UInt8)} {s:List UInt8} {x:α} (h:rd s=none):Took rd (some s) x none:=h
theorem Took.pair {α β:Type} {r1:List UInt8→Option (α×List UInt8)} {r2:List UInt8→Option (β×List UInt8)} {st s1 s2:Lft} {x:α} {y:β} (h:Took r1 st x s1) (k:Took r2 s1 y s2) :
  Took (fun s=>(r1 s).bind fun a=>(r2 a.2).bind fun b=>some ((a.1,b.1),b.2)) st (x,y) s2:=by
 unfold Took
 rw[h.next,k.next (fun b=>some ((x,b.1),b.2))]
 cases s2<;>rfl
theorem took_use {st s1 s2:Lft} {t:List UInt8} {k:Int} (h:Took rText st t s1) (h2:Took rWord s1 k s2):Took rUse st (t,k) s2:=Took.pair h h2
theorem took_ext {st s1 s2:Lft} {a b:Int} (h:Took rNum st a s1) (h2:Took rNum s1 b s2):Took rExt st (a,b) s2:=Took.pair h h2
theorem many_snoc {α:Type} (rd:List UInt8→Option (α×List UInt8)):∀ (k:Nat) (s:List UInt8),many rd (k+1) s=(many rd k s).bind fun y=>(rd y.2).bind fun z=>some (y.1++[z.1],z.2)
 | 0,s=>by
  rw[many,many]
  dsimp only[Option.bind]
  cases rd s with
  | none=>rfl
  | some z=>rfl
 | k+1,s=>by
  rw[many]
  cases h:rd s with
  | none=>rw[many,h];rfl
  | some z=>
   dsimp only
   rw[many_snoc rd k z.2,many,h]
   dsimp only
   cases many rd k z.2 with
   | none=>rfl
   | some y=>
    dsimp only[Option.bind]
    cases rd y.2<;>rfl
theorem took_zero {α:Type} (rd:List UInt8→Option (α×List UInt8)) (st:Lft):Took (many rd 0) st [] st:=by cases st<;>rfl
theorem took_snoc {α:Type} {rd:List UInt8→Option (α×List UInt8)} {k:Nat} {st s1 s2:Lft} {l:List α} {x:α} (h:Took (many rd k) st l s1) (h2:Took rd s1 x s2):Took (many rd (k+1)) st (l++[x]) s2:=by
 have e:many rd (k+1)=fun s=>(many rd k s).bind fun y=>(rd y.2).bind fun z=>some (y.1++[z.1],z.2):=funext (many_snoc rd k)
 unfold Took
 rw[e,h.next,h2.next (fun z=>some (l++[z.1],z.2))]
 cases s2<;>rfl
theorem many_no {α:Type} {rd:List UInt8→Option (α×List UInt8)} {s:List UInt8} {k:Nat} (h:many rd k s=none):∀ d,many rd (k+d) s=none
 | 0=>h
 | d+1=>by rw[← Nat.add_assoc,many_snoc,many_no h d];rfl
theorem took_more {α:Type} {rd:List UInt8→Option (α×List UInt8)} {st:Lft} {l:List α} {n k:Nat} (hk:k≤n) (h:Took (many rd k) st l none):Took (many rd n) st l none:=by
 cases st with
 | none=>rfl
 | some s=>
  have h:many rd k s=none:=h
  have:=many_no h (n-k)
  rw[show k+(n-k)=n by omega] at this
  exact this
theorem took_desc {b:Bool} {st s1 s2 s3:Lft} {x n:Int} {l:List (Int×Int)} (h:Took rNum st x s1) (h2:Took (cnt b 5) s1 n s2) (h3:Took (many rExt n.toNat) s2 l s3):Took (rDesc b) st (x,l) s3:=by
 have e:rDesc b=fun s=>(rNum s).bind fun x=>(cnt b 5 x.2).bind fun y=>(many rExt y.1.toNat y.2).bind fun z=>some ((x.1,z.1),z.2):=rfl
 unfold Took
 rw[e,h.next,h2.next (fun y=>(many rExt y.1.toNat y.2).bind fun z=>some ((x,z.1),z.2)),h3.next (fun z=>some ((x,z.1),z.2))]
 cases s3<;>rfl
theorem took_cnt {lim n:Int} {st st':Lft} (h:Took rNum st n st'):Took (cnt false lim) st n st':=by
 have e:cnt false lim=rNum:=by
  funext s
  unfold cnt
  cases rNum s with
  | none=>rfl
  | some x=>simp
 rw[e];exact h
theorem parse_took {b:Bool} {s:List UInt8} {s1 s2 s3 s4 s5 s6 s7 s8 s9 s10 s11 s12 s13 s14 s15 s16:Lft} {hd nm st:List UInt8} {key nu nd da ns nc ne ca pl:Int} {us:List (List UInt8×Int)} {ds:List (Int×List (Int×Int))} {co en:List Int}
  (h1:Took rText (some s) hd s1) (hh:hd=head) (h2:Took rText s1 nm s2) (h3:Took rWord s2 key s3) (h4:Took (cnt b 16) s3 nu s4) (h5:Took (many rUse nu.toNat) s4 us s5) (h6:Took (cnt b 64) s5 nd s6) (h7:Took (many (rDesc b) nd.toNat) s6 ds s7)
  (h8:Took rNum s7 da s8) (h9:Took (cnt b 32768) s8 ns s9) (h10:Took (rRaw ns) s9 st s10) (h11:Took (cnt b 8192) s10 nc s11) (h12:Took (many rWord nc.toNat) s11 co s12) (h13:Took (cnt b 64) s12 ne s13) (h14:Took (many rNum ne.toNat) s13 en s14) (h15:Took rNum s14 ca s15) (h16:Took rNum s15 pl s16) :
  parse b s=s16.map fun r=>(⟨nm,key,us,ds,da,st,co,en,ca,pl⟩,r):=by
 subst hh
 unfold parse
 refine(h1.next _).trans ?_
 dsimp only
 simp only[if_true]
 refine(h2.next _).trans ?_
 dsimp only
 refine(h3.next _).trans ?_
 dsimp only
 refine(h4.next _).trans ?_
 dsimp only
 refine(h5.next _).trans ?_
 dsimp only
 refine(h6.next _).trans ?_
 dsimp only
 refine(h7.next _).trans ?_
 dsimp only
 refine(h8.next _).trans ?_
 dsimp only
 refine(h9.next _).trans ?_
 dsimp only
 refine(h10.next _).trans ?_
 dsimp only
 refine(h11.next _).trans ?_
 dsimp only
 refine(h12.next _).trans ?_
 dsimp only
 refine(h13.next _).trans ?_
 dsimp only
 refine(h14.next _).trans ?_
 dsimp only
 refine(h15.next _).trans ?_
 dsimp only
 refine(h16.next _).trans ?_
 cases s16<;>rfl
theorem parse_nohead {b:Bool} {s hd:List UInt8} {s1:Lft} (h1:Took rText (some s) hd s1) (hh:hd≠head):parse b s=none:=by
 unfold parse
 refine(h1.next _).trans ?_
 dsimp only
 simp only[if_neg hh]
 cases s1<;>rfl
def decO (s:List UInt8):Option Ob:=
 if s.length≤131072 then (match parse true s with
  | some (o,[])=>if goodO o=true then some o else none
  | _=>none) else none
theorem decO_iff (s:List UInt8) (o:Ob):decO s=some o↔goodBytes goodO s o:=by
 unfold decO goodBytes
 constructor
 ·intro h
  split at h
  ·rename_i h1
   split at h
   ·rename_i o' h2
    split at h
    ·rename_i h3
     injection h with h
     subst h
     exact⟨h1,h2,h3⟩
    ·cases h
   ·cases h
  ·cases h
 ·rintro⟨h1,h2,h3⟩
  rw[if_pos h1,h2]
  dsimp only
  rw[if_pos h3]
theorem decO_some {s:List UInt8} {o:Ob} (h:decO s=some o):goodO o=true∧encO o=s∧s.length≤131072:=by
 have h:=(decO_iff s o).1 h
 have e:=parse_back _ _ _ h.2.1
 rw[List.append_nil] at e
 exact⟨h.2.2,e.symm,h.1⟩
theorem decO_yes {s:List UInt8} {o:Ob} (h:parse false s=some (o,[])) (hg:goodO o=true) (hl:(encO o).length≤131072) (he:encO o=s):decO s=some o:=
 (decO_iff s o).2 ((decode_iff (fun o=>good_wr) s o).2 ⟨h,hg,hl,he⟩)
theorem decO_no {s:List UInt8} {o:Ob} {st:Lft} (hp:parse false s=st.map fun r=>(o,r)) (h:¬ (st=some []∧goodO o=true∧(encO o).length≤131072∧encO o=s)):decO s=none:=by
 cases e:decO s with
 | none=>rfl
 | some o'=>
  exfalso
  obtain⟨a,b,c,d⟩:=(decode_iff (fun o=>good_wr) s o').1 ((decO_iff s o').1 e)
  rw[a] at hp
  cases st with
  | none=>cases hp
  | some r=>
   simp only[Option.map_some] at hp
   injection hp with hp
   injection hp with h1 h2
   subst h1 h2
   exact h ⟨rfl,b,c,d⟩
theorem decO_none {s:List UInt8} (h:parse false s=none):decO s=none:=by
 cases e:decO s with
 | none=>rfl
 | some o'=>
  obtain⟨a,-⟩:=(decode_iff (fun o=>good_wr) s o').1 ((decO_iff s o').1 e)
  rw[a] at h
  cases h
end ObjL
end Go.Proofs.YtceflhffilldeaaGreat
namespace Go.Proofs.YtceflhffilldeaaGreat
open Go.RowKit Go.Maps Go.WideMaps ObjL
theorem str_keyed:Keyed Tryz.prog 9:=string_keyed Tryz.underlying9
def skey (t:List UInt8):Lit:=.string t
theorem skey_isKey {t:List UInt8}:WideAt.IsKeyLit (skey t):=by
 first | exact trivial | exact⟨_,rfl⟩ | exact Or.inl ⟨_,rfl⟩ | exact Or.inr ⟨_,rfl⟩ | exact Or.inr (Or.inl ⟨_,rfl⟩) | simp[skey,WideAt.IsKeyLit]
theorem skey_inj {a b:List UInt8} (h:skey a=skey b):a=b:=by injection h
theorem keyOf_txt {t:List UInt8} (h:t.length≤9223372036854775807):keyOf Tryz.prog 9 (.string (txt t))=some (skey t):=by
 have:=keyOf_string_mk (k:=9) (P:=Tryz.prog) Tryz.underlying9 (s:=txt t) (by rw[txt_size];unfold maxLen;omega)
 rw[txt_data] at this
 exact this
def snum (a:Int):DataW Unit:=.lit (.int .i64 a)
def sval (D:DataW Unit) (t:List UInt8):Int:=match D.atKey (skey t) (snum 0) with | .lit (.int _ x)=>x | _=>0
theorem si_zero (w:World):(zeroValue 3).run Tryz.prog w=.ok (.int .i64 0) w:=by kernel_rfl
def SMap (w:World) (b n:Nat) (D:DataW Unit):Prop:=w.ownsMap Tryz.prog 9 (plainElem Tryz.prog 3) b n D
theorem SMap.look {w:World} {b n:Nat} {D:DataW Unit} {t:List UInt8} (h:SMap w b n D) (ht:t.length≤9223372036854775807) :
  (Instr.lookup 95 (.map (some b)) (.string (txt t)) false).run Tryz.prog w=.ok (.int .i64 (sval D t)) w:=by
 have hk:=keyOf_txt ht
 obtain⟨v,ps,hrun,hv⟩:=World.ownsMap.lookup h str_keyed Tryz.underlying95 (si_zero w) (plainElem_int Tryz.underlying3 (q:=.i64) (a:=0) (by decide)) hk
 obtain⟨x,rfl,hz,hw⟩:=plainElem_int_inv Tryz.underlying3 hv
 have h1:D.atKey (skey t) (snum 0)=.lit (.int .i64 x):=(Prod.mk.inj hz).1
 have h2:sval D t=x:=by rw[sval,h1]
 rw[h2]
 exact hrun
theorem SMap.below {w w':World} {b n:Nat} {D:DataW Unit} (h:SMap w b n D) (hb:Below w.heap.size w w'):SMap w' b n D:=by
 have hlt:=World.ownsMap.lt h
 obtain⟨es,clock,hB,F,hs,hD⟩:=h
 exact⟨es,clock,(hb.block b hlt).trans hB,F,hs,hD⟩
theorem sval_put {D:DataW Unit} (hD:IsMap D) {a b:List UInt8} {x:Int}:sval (D.put (skey a) (snum x)) b=if b=a then x else sval D b:=by
 unfold sval
 by_cases e:b=a
 ·rw[if_pos e,e,atKey_put_same hD skey_isKey];rfl
 ·rw[if_neg e,atKey_put_other (fun h=>e (skey_inj h))]
theorem SMap.isMap {w:World} {b n:Nat} {D:DataW Unit} (h:SMap w b n D):IsMap D:=World.ownsMap.isMap h
def Counts (D:DataW Unit) (own:List UInt8) (l:List (List UInt8)):Prop:=∀ t,sval D t=if t=own∨t∈l then 1 else 0
theorem Counts.next {D:DataW Unit} {own t:List UInt8} {l:List (List UInt8)} (h:Counts D own l) (hD:IsMap D) (ht:¬ (t=own∨t∈l)):Counts (D.put (skey t) (snum 1)) own (l++[t]):=fun s=>by
 rw[sval_put hD,h s]
 by_cases e:s=t
 ·rw[if_pos e,if_pos (by simp[e])]
 ·rw[if_neg e]
  have:(s=own∨s∈l)↔(s=own∨s∈l++[t]):=by simp[e]
  simp only[this]
end Go.Proofs.YtceflhffilldeaaGreat
namespace Go.Proofs.YtceflhffilldeaaGreat
open Go.RowKit ObjL
def offPlace (n:Nat) (x:Int):Bool:=!decide (0≤x∧x<n)
theorem obj_good1 (x:Int) (n g:Nat) (A:Option Addr) (c:Nat) (w:World) (h6:w.cell? ⟨g,6,none⟩=some (.slice A n c)) (hn:n≤9223372036854775807) :
  Calls Tryz.prog 173 #[.int .i64 x,.pointer (some ⟨g,0,none⟩)] w fun e w'=>e=.returned (.bool (offPlace n x))∧w=w':=by
 have hB:=zh (below_any x n w)
 have hq:Hid (offPlace n x=!decide (0≤x∧x<n)):=zh rfl
 generalize decide (0≤x∧x<n)=q at *
 go_enter Tryz.func173,Tryz.ntmps173
 go_wp2_with fail
 refine hB.out.mono ?_
 rintro e w1 ⟨rfl,rfl⟩
 go_wp2_with fail
 go_ret
 exact⟨og_ret hq.out.symm,rfl⟩
theorem index_int (l:List Int) (v:Value) (n g:Nat) (A0:Option Addr) (c0:Nat) (w:World) (hr:Row .i64 w v l) (h6:w.cell? ⟨g,6,none⟩=some (.slice A0 n c0)) (hn:n≤9223372036854775807) :
  Calls Tryz.prog 182 #[v,.func (.func 173) #[] #[.pointer (some ⟨g,0,none⟩)]] w (IdxRes (l.any fun x=>offPlace n x) w):=by
 obtain⟨hm,A,c,rfl,hc⟩:=hr
 have hc:=zh hc
 have G1:=fun x=>zh (obj_good1 x n g A0 c0 w h6 hn)
 clear h6
 go_enter Tryz.func182,Tryz.ntmps182
 go_wp2_with fail
 go_loop [8] (fun i=>∃ k:Nat,i=.int .i64 k∧k≤l.length∧Hid (∀ j (hj:j<k) (hl:j<l.length),offPlace n l[j]=false)) (fun i=>l.length-(intOf i).toNat)
 case atStart=>exact⟨0,rfl,by omega,zh (fun j hj=>by omega)⟩
 case round=>
  obtain⟨k,rfl,hk,hall⟩:=hrel
  by_cases hlt:k<l.length
  ·have hlt':(k:Int)<l.length:=by omega
   obtain⟨ad,rfl,-,hx⟩:=hc.out k hlt
   have hgd:l.getD k 0=l[k]:=by simp[List.getD,hlt]
   rw[hgd] at hx
   have hN:=zh (G1 l[k]).out
   cases ha:offPlace n l[k]
   ·have hnext:Hid (∀ j (hj:j<k+1) (hl:j<l.length),offPlace n l[j]=false):=zh (fun j hj hl=>by
     rcases Nat.lt_or_ge j k with h | h
     ·exact hall.out j h hl
     ·obtain rfl:j=k:=by omega
      exact ha)
    rw[ha] at hN
    clear hgd ha hall
    generalize l[k]=y at *
    go_wp2_with fail
    refine hN.out.mono ?_
    rintro e w1 ⟨rfl,rfl⟩
    go_wp2_with fail
    go_round
    case rel=>exact⟨k+1,by go_num,by omega,hnext⟩
    case measure=>simp[intOf];omega
   ·have hres:Hid (l.any (fun x=>offPlace n x)=true):=zh (by rw[List.any_eq_true];exact⟨l[k],List.getElem_mem hlt,ha⟩)
    rw[ha] at hN
    clear hgd ha hall
    generalize l[k]=y at *
    go_wp2_with fail
    refine hN.out.mono ?_
    rintro e w1 ⟨rfl,rfl⟩
    go_wp2_with fail
    go_ret
    exact⟨k,rfl,by rw[hres.out];simp,rfl⟩
  ·obtain rfl:k=l.length:=by omega
   have hres:Hid (l.any (fun x=>offPlace n x)=false):=zh (by
    rw[List.any_eq_false]
    intro x hx
    obtain⟨j,hj,rfl⟩:=List.getElem_of_mem hx
    rw[hall.out j hj hj];simp)
   clear hall
   go_wp2_with fail
   go_ret
   exact⟨-1,rfl,by rw[hres.out];simp,rfl⟩
theorem contains_int (l:List Int) (v:Value) (n g:Nat) (A0:Option Addr) (c0:Nat) (w:World) (hr:Row .i64 w v l) (h6:w.cell? ⟨g,6,none⟩=some (.slice A0 n c0)) (hn:n≤9223372036854775807) :
  Calls Tryz.prog 172 #[v,.func (.func 173) #[] #[.pointer (some ⟨g,0,none⟩)]] w fun e w'=>e=.returned (.bool (l.any fun x=>offPlace n x))∧w=w':=by
 have IX:=zh (index_int l v n g A0 c0 w hr h6 hn)
 clear hr
 generalize (l.any fun x=>offPlace n x)=b at *
 go_enter Tryz.func172,Tryz.ntmps172
 go_wp2_with fail
 refine IX.out.mono ?_
 rintro e w1 ⟨i,rfl,hi,rfl⟩
 have hi:=zh hi
 go_wp2_with fail
 go_ret
 first | exact⟨rfl,rfl⟩ | exact⟨og_ret hi.out,rfl⟩
end Go.Proofs.YtceflhffilldeaaGreat
namespace Go.Proofs.YtceflhffilldeaaGreat
open Go.RowKit ObjL
namespace ObjL
def nameAt (o:Ob) (i:Nat):List UInt8:=(o.uses.getD i ([],0)).1
theorem nameAt_eq {o:Ob} {i:Nat} (h:i<o.uses.length):nameAt o i=(o.uses[i]).1:=by
 unfold nameAt
 simp[List.getD,h]
theorem namesB_iff (o:Ob):namesB o=true↔wordT o.name=true∧o.uses.length≤16∧∀ i,i<o.uses.length→wordT (nameAt o i)=true∧nameAt o i≠o.name∧∀ j,j<i→nameAt o j≠nameAt o i:=by
 unfold namesB
 simp only[Bool.and_eq_true,decide_eq_true_eq,List.all_eq_true]
 constructor
 ·rintro⟨⟨⟨h1,h2⟩,h3⟩,h4⟩
  refine⟨h1,h2,fun i hi=>?_⟩
  have hm:=h3 _ (List.getElem_mem hi)
  rw[← nameAt_eq hi] at hm
  refine⟨hm.1,hm.2,fun j hj e=>?_⟩
  have h5:=List.pairwise_iff_getElem.1 h4 j i (by rw[List.length_map];omega) (by rw[List.length_map];omega) hj
  refine h5 ?_
  rw[List.getElem_map,List.getElem_map,← nameAt_eq hi,← nameAt_eq (by omega),e]
 ·rintro⟨h1,h2,h3⟩
  refine⟨⟨⟨h1,h2⟩,fun u hu=>?_⟩,?_⟩
  ·obtain⟨i,hi,rfl⟩:=List.getElem_of_mem hu
   have:=h3 i hi
   rw[← nameAt_eq hi]
   exact⟨this.1,this.2.1⟩
  ·refine List.pairwise_iff_getElem.2 fun j i hj hi hij e=>?_
   rw[List.length_map] at hi hj
   rw[List.getElem_map,List.getElem_map,← nameAt_eq hi,← nameAt_eq hj] at e
   exact(h3 i hi).2.2 j hij e
theorem namesB_no {o:Ob} (h:¬ (wordT o.name=true∧o.uses.length≤16∧∀ i,i<o.uses.length→wordT (nameAt o i)=true∧nameAt o i≠o.name∧∀ j,j<i→nameAt o j≠nameAt o i)):namesB o=false:=by
 cases e:namesB o
 ·rfl
 ·exact absurd ((namesB_iff o).1 e) h
theorem namesB_no_at {o:Ob} {i:Nat} (hi:i<o.uses.length) (h:¬ (wordT (nameAt o i)=true∧nameAt o i≠o.name∧∀ j,j<i→nameAt o j≠nameAt o i)):namesB o=false:=namesB_no fun k=>h (k.2.2 i hi)
theorem namesB_no_word {o:Ob} {i:Nat} (hi:i<o.uses.length) (h:wordT (nameAt o i)=false):namesB o=false:=namesB_no_at hi fun k=>by rw[h] at k;cases k.1
theorem namesB_no_own {o:Ob} {i:Nat} (hi:i<o.uses.length) (h:nameAt o i=o.name):namesB o=false:=namesB_no_at hi fun k=>k.2.1 h
theorem namesB_no_twice {o:Ob} {i j:Nat} (hi:i<o.uses.length) (hj:j<i) (h:nameAt o j=nameAt o i):namesB o=false:=namesB_no_at hi fun k=>k.2.2 j hj h
end ObjL
end Go.Proofs.YtceflhffilldeaaGreat
