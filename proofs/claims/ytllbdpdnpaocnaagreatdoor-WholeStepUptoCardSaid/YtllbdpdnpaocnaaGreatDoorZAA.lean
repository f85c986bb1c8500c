/- Part of the proof of WholeStep. -/
import Derived.WalkKit
import Derived.WalkSpells
import Derived.WalkLawsBesides
import Derived.Deep.Draws
import Derived.Deep.AppendLies
import Derived.Lib.Hide
import Derived.Maps.AppendAt
import Derived.RegionTactic
import Derived.Deep.RegionHeld3
import Derived.Deep.MidRow
import Derived.Test.YtllbdpdnpaocnaaGreatDoorRows
import Derived.ProofKit
import Derived.OpenShut
import Derived.ShutString
import Derived.ChangeOld
import Derived.Below
import Derived.Deep.Slices
import Derived.Deep.Fields
import Derived.Lib.SmallJoins
namespace Go.Proofs.YtllbdpdnpaocnaaGreatDoor
set_option linter.unusedSimpArgs false
set_option linter.unusedVariables false
set_option linter.constructorNameAsVariable false
open Go.RowKit
theorem aa {p:Prop} (h:p):Go.RowKit.Hid p:=h
theorem du (a:Addr) (n:Nat):(a.add n).block=a.block:=by unfold Addr.add;split <;> rfl
theorem jM (a:Addr) (i j:Nat):(a.add i).add j=a.add (i+j):=by unfold Addr.add;by_cases hi:i=0 <;> by_cases hj:j=0 <;> simp [hi,hj,Nat.add_assoc]
structure Sl (w:World) (B size:Nat) (A:Option Addr) (n:Nat) (xs:List Value):Prop where
 len:xs.length=n*size
 le:n≤9223372036854775807
 mem:0 < n→∃ad,A=some ad∧ad.block < B∧∀(j:Nat) (u:Value),xs[j]?=some u→w.cell? (ad.add j)=some u
section
variable {w w' : World} {B B' size n:Nat} {A:Option Addr} {xs:List Value}
theorem Sl.nil:Sl w B size A 0 []:=⟨by simp,by omega,fun h=>absurd h (by omega)⟩
theorem Sl.keep (h:Sl w B size A n xs) (hk:∀p:Addr,p.block < B→w'.cell? p=w.cell? p):Sl w' B size A n xs:=
 ⟨h.len,h.le,fun hn=>by
  obtain ⟨ad,e,hb,hc⟩:=h.mem hn;exact ⟨ad,e,hb,fun j u hu=>(hk _ (by rw [du];exact hb)).trans (hc j u hu)⟩⟩
theorem Sl.more (h:Sl w B size A n xs) (hB:B≤B'):Sl w B' size A n xs:=
 ⟨h.len,h.le,fun hn=>by
  obtain ⟨ad,e,hb,hc⟩:=h.mem hn;exact ⟨ad,e,by omega,hc⟩⟩
theorem Sl.below (h:Sl w B size A n xs) (hb:Below B w w'):Sl w' B size A n xs:=h.keep fun _ hp=>hb.cell hp
theorem Sl.later (h:Sl w w.heap.size size A n xs) (hb:Below w.heap.size w w'):Sl w' w'.heap.size size A n xs:=(h.below hb).more hb.size
theorem Sl.drew (h:Sl w B size A n xs):Sl w.drew B size A n xs:=h.keep fun _ _=>rfl
theorem Sl.drewN (h:Sl w B size A n xs) (k:Nat):Sl (w.drewN k) B size A n xs:=h.keep fun _ _=>rfl
theorem Sl.alloc (h:Sl w B size A n xs) (hB:B≤w.heap.size) (o:Obj):Sl (w.alloc o) B size A n xs:=h.keep fun p hp=>World.cell?_alloc_lt w o p (by omega)
theorem Sl.setCell (h:Sl w B size A n xs) {p:Addr} (hB:B≤p.block) (u:Value):Sl (w.setCell p u) B size A n xs:=
 h.keep fun q hq=>World.cell?_setCell_other w p q u (fun e=>by subst e;omega)
theorem Sl.at_ {f:Int→Value} {zs:List Int} {k:Nat} (h:Sl w B 1 A n (zs.map f)) (hk:k < n):∃ad z,A=some ad∧ad.block < B∧zs[k]?=some z∧w.cell? (ad.add k)=some (f z):=by
 obtain ⟨ad,e,hb,hc⟩:=h.mem (by omega);have hl:k < zs.length:=by have:=h.len;simp at this;omega
 exact ⟨ad,zs[k],e,hb,List.getElem?_eq_getElem hl,hc k _ (by simp [hl])⟩
theorem Sl.length {α:Type} {f:α→Value} {zs:List α} (h:Sl w B 1 A n (zs.map f)):zs.length=n:=by have:=h.len;simpa using this
theorem Sl.of_own {base:Nat} {e:TypeId} {c:Nat} (h:w.ownsRow base e size (.slice A n c) n xs):Sl w w.heap.size size A n xs:=by
 refine ⟨h.1,?_,fun hn=>?_⟩
 ·rcases h.2 with ⟨_,h0⟩ | ⟨g,cap,cur,_,_,_,hnc,hcm,_⟩
  ·omega
  ·unfold maxLen at hcm;omega
 ·obtain ⟨g,cap,hv,_,hlt⟩:=h.form hn;have hA:A=some ⟨g,0,none⟩:=by injection hv
  subst hA;exact ⟨_,rfl,hlt,h.cells (g:=g) rfl⟩
theorem aI {base:Nat} {e:TypeId} {v:Value} (h:w.ownsRow base e size v n xs):∃A c,v=.slice A n c:=by
 rcases h.2 with ⟨rfl,rfl⟩ | ⟨g,cap,cur,rfl,_⟩
 ·exact ⟨none,0,rfl⟩
 ·exact ⟨_,cap,rfl⟩
end
def Bk (w:World) (g:Nat) (t:TypeId) (xs:List Value):Prop:=w.heap[g]?=some (.cells xs.toArray t (0,0))
section
variable {w w' : World} {g:Nat} {t:TypeId} {xs:List Value}
theorem Bk.lt (h:Bk w g t xs):g < w.heap.size:=by
 rcases Nat.lt_or_ge g w.heap.size with hlt | hge
 ·exact hlt
 ·unfold Bk at h;rw [Array.getElem?_eq_none hge] at h;cases h
theorem Bk.cell (h:Bk w g t xs) (i:Nat):w.cell? ⟨g,i,none⟩=xs[i]?:=(cell_of_row w g i _ t (0,0) h).trans (by simp)
theorem Bk.frozen (h:Bk w g t xs) (i:Nat):w.frozen? ⟨g,i,none⟩=false:=by unfold Bk at h;simp [World.frozen?,h]
theorem Bk.new (w:World) (t:TypeId) (cs:Array Value):Bk (w.alloc (.cells cs t)) w.heap.size t cs.toList:=by unfold Bk;simpa using heap_alloc_new w (.cells cs t)
theorem Bk.new' (w:World) (t:TypeId) (cs:Array Value) {xs:List Value} (h:cs.toList=xs):Bk (w.alloc (.cells cs t)) w.heap.size t xs:=h▸Bk.new w t cs
theorem Bk.at_ (w:World) (t:TypeId) (cs:Array Value) {xs:List Value} {g:Nat} (hg:w.heap.size=g) (h:cs.toList=xs):Bk (w.alloc (.cells cs t)) g t xs:=hg▸Bk.new' w t cs h
theorem Bk.drew (h:Bk w g t xs):Bk w.drew g t xs:=h
theorem Bk.drewN (h:Bk w g t xs) (n:Nat):Bk (w.drewN n) g t xs:=h
theorem Bk.alloc (h:Bk w g t xs) (o:Obj):Bk (w.alloc o) g t xs:=(Below.heap_alloc w o g h.lt).trans h
theorem Bk.set_ (h:Bk w g t xs) (i:Nat) (u:Value):Bk (w.setCell ⟨g,i,none⟩ u) g t (xs.set i u):=by unfold Bk at h ⊢;simp [World.setCell,Array.getElem?_modify,h]
theorem Bk.far (h:Bk w g t xs) {p:Addr} (hp:g≠p.block) (u:Value):Bk (w.setCell p u) g t xs:=(Below.heap_setCell w p u g hp).trans h
theorem Bk.below {B:Nat} (h:Bk w g t xs) (hb:Below B w w') (hg:g < B):Bk w' g t xs:=(hb.block g hg).trans h
theorem Bk.later (h:Bk w g t xs) (hb:Below w.heap.size w w'):Bk w' g t xs:=h.below hb h.lt
theorem Bk.grown {row:Option Nat} (h:Bk w g t xs) (hb:w.grownBy w' row) (hg:some g≠row):Bk w' g t xs:=(hb.block g h.lt hg).trans h
theorem Bk.ne_ {g' : Nat} {t' : TypeId} {xs' : List Value} (h:Bk w g t xs) (h' : Bk w g' t' xs') (hne:t≠t'):g≠g':=by
 rintro rfl;unfold Bk at h h';rw [h] at h';injection h' with h'
 injection h' with _ ht
 exact hne ht
theorem Bk.own {base size n cap:Nat} {ys:List Value} (h:Bk w g t xs) (hg:base≤g) (hn:n≤cap) (hc:cap≤9223372036854775807) (hx:xs.length=cap*size) (hy:xs.take (n*size)=ys):w.ownsRow base t size (.slice (some ⟨g,0,none⟩) n cap) n ys:=by have hn' : n*size≤cap*size:=Nat.mul_le_mul_right _ hn;exact ⟨by rw [←hy,List.length_take];omega,.inr ⟨g,cap,xs.toArray,rfl,hg,h,hn,by unfold maxLen;omega,by simpa using hx,by simpa using hy⟩⟩
theorem Bk.sl {size n:Nat} {ys:List Value} (h:Bk w g t xs) (hl:ys.length=n*size) (hn:n≤9223372036854775807) (hy:∀(j:Nat) (u:Value),ys[j]?=some u→xs[j]?=some u):Sl w w.heap.size size (some ⟨g,0,none⟩) n ys:=
 ⟨hl,hn,fun _=>⟨_,rfl,h.lt,fun j u hu=>by
  have e:(⟨g,0,none⟩:Addr).add j=⟨g,j,none⟩:=by unfold Addr.add;split <;> simp_all
  rw [e,h.cell,hy j u hu]⟩⟩
end
theorem dA {w:World} {base size n:Nat} {e:TypeId} {v:Value} {xs:List Value} (h:w.ownsRow base e size v n xs):(v=.slice none 0 0∧n=0∧xs=[])∨∃g cap ys,v=.slice (some ⟨g,0,none⟩) n cap∧base≤g∧Bk w g e ys∧n≤cap∧cap≤9223372036854775807∧ys.length=cap*size∧ys.take (n*size)=xs:=by
 obtain ⟨hl,h⟩:=h;rcases h with ⟨rfl,rfl⟩ | ⟨g,cap,cur,rfl,hb,hh,hnc,hcm,hcs,ht⟩
 ·exact .inl ⟨rfl,rfl,List.eq_nil_of_length_eq_zero (by simpa using hl)⟩
 ·exact .inr ⟨g,cap,cur.toList,rfl,hb,by unfold Bk;simpa using hh,hnc,by unfold maxLen at hcm;omega,by simpa using hcs,ht⟩
section
variable {P:Program}
theorem oZ (w:World) (base:Nat) (t ty e:TypeId) (i:TypeInfo) (size:Nat) (ht:P.underlying t=some (.slice e)) (hi:P.info? e=some i) (v:Value) (n:Nat) (xs:List Value) (hown:w.ownsRow base e size v n xs) (c:Nat):(Builtin.append_ #[t,t] ty #[v,.slice none 0 c]).run P w=.ok v w:=by
 rcases hown.2 with ⟨rfl,rfl⟩ | ⟨g,cap,cur,rfl,_,_,hnc,_⟩ <;>
  simp [Builtin.append_,run_underlying ht,sizeOf,typeInfo,Builtin.lenOf,Builtin.firstCells,storeCells, *]
theorem xK (w:World) (base:Nat) (t ty e:TypeId) (i:TypeInfo) (z:Value) (size bytes:Nat) (ht:P.underlying t=some (.slice e)) (hi:P.info? e=some i) (hz:i.zero=some z) (hsize:i.size=size) (hby:i.bytes=bytes) (hzs:z.cells.size=size) (hsz:0 < size) (v:Value) (n:Nat) (xs:List Value) (hown:w.ownsRow base e size v n xs) (B:Nat) (A:Option Addr) (m c:Nat) (news:List Value) (hr:Sl w B size A m news) (h1:∀u∈news,u.oneCell'=true) (h63:n+m≤maxLen) (hbytes:(n+m)*bytes≤140737488355328) (hbase:base≤w.heap.size):∃v' w',(Builtin.append_ #[t,t] ty #[v,.slice A m c]).run P w=.ok v' w'∧w'.ownsRow base e size v' (n+m) (xs ++ news)∧w.grownBy w' v.ownBlock∧(v'.ownBlock=v.ownBlock∨v'.ownBlock=some w.heap.size):=by
 cases A with
 | none=>
  have hm:m=0:=by
   rcases Nat.eq_zero_or_pos m with h0 | h0
   ·exact h0
   ·obtain ⟨_,h,_⟩:=hr.mem h0;cases h
  subst hm;have hn:news=[]:=List.eq_nil_of_length_eq_zero (by simpa using hr.len);subst hn;exact ⟨v,w,oZ w base t ty e i size ht hi v n xs hown c,by simpa using hown,World.grownBy.refl w _,.inl rfl⟩
 | some ad=>
  have hcells:∀(j:Nat) (u:Value),news[j]?=some u→w.cell? (ad.add j)=some u:=by
   intro j u hu;rcases Nat.eq_zero_or_pos m with h0 | h0
   ·subst h0;have hn:news=[]:=List.eq_nil_of_length_eq_zero (by simpa using hr.len);subst hn;simp at hu
   ·obtain ⟨ad',h,_,hc⟩:=hr.mem h0;injection h with h;subst h
    exact hc j u hu
  obtain ⟨v',w',hrun,h2,h3,_,h5⟩:=run_append_own_at (P:=P) w base t ty e i z size bytes ht hi hz hsize hby hzs hsz v n xs hown ad m c news hr.len hcells h1 h63 hbytes hbase;exact ⟨v',w',hrun,h2,h3,h5⟩
theorem fO (w:World) {o:Oper} {a:Act} {K:Act→World→Prop} {Q:Exit→Act→World→Prop} (s x:Operand) (t:TypeId) (ho:o.op=.call { callee:=.builtin .append,args:=#[s,x],argTypes:=#[t,t] })
  (base:Nat) (e:TypeId) (i:TypeInfo) (z:Value) (size bytes:Nat) (ht:P.underlying t=some (.slice e)) (hi:P.info? e=some i) (hz:i.zero=some z)
  (hsize:i.size=size) (hby:i.bytes=bytes) (hzs:z.cells.size=size) (hsz:0 < size)
  (v:Value) (n:Nat) (xs:List Value) (hs:a.eval s=v) (hown:w.ownsRow base e size v n xs)
  (B:Nat) (A:Option Addr) (m c:Nat) (news:List Value) (hx:a.eval x=.slice A m c) (hr:Sl w B size A m news) (h1:∀u∈news,u.oneCell'=true)
  (h63:n+m≤maxLen) (hbytes:(n+m)*bytes≤140737488355328) (hbase:base≤w.heap.size)
  (h:∀v' w',w'.ownsRow base e size v' (n+m) (xs ++ news)→w.grownBy w' v.ownBlock→(v'.ownBlock=v.ownBlock∨v'.ownBlock=some w.heap.size)→K (a.put o.dst v') w'):o.wp P a w K Q:=by
 obtain ⟨v',w',hrun,h2,h3,h4⟩:=xK (P:=P) w base t o.type e i z size bytes ht hi hz hsize hby hzs hsz v n xs hown B A m c news hr h1 h63 hbytes hbase;unfold Oper.wp execOp;simp only [ho,resolve,invoke,builtin,Sem.run_bind,Sem.run_pure,Result.andThen_ok,List.map_toArray,List.map_cons,List.map_nil,hs,hx,hrun];exact h v' w' h2 h3 h4
theorem bm (w:World) {ops:Array Oper} {rest:List Oper} {o:Oper} {a:Act} {Q:Exit→Act→World→Prop} (hgd:o.guard=none) (s x:Operand) (t:TypeId) (ho:o.op=.call { callee:=.builtin .append,args:=#[s,x],argTypes:=#[t,t] })
  (base:Nat) (e:TypeId) (i:TypeInfo) (z:Value) (size bytes:Nat) (ht:P.underlying t=some (.slice e)) (hi:P.info? e=some i) (hz:i.zero=some z)
  (hsize:i.size=size) (hby:i.bytes=bytes) (hzs:z.cells.size=size) (hsz:0 < size)
  (v:Value) (n:Nat) (xs:List Value) (hs:a.eval s=v) (hown:w.ownsRow base e size v n xs)
  (B:Nat) (A:Option Addr) (m c:Nat) (news:List Value) (hx:a.eval x=.slice A m c) (hr:Sl w B size A m news) (h1:∀u∈news,u.oneCell'=true)
  (h63:n+m≤maxLen) (hbytes:(n+m)*bytes≤140737488355328) (hbase:base≤w.heap.size)
  (h:∀v' w',w'.ownsRow base e size v' (n+m) (xs ++ news)→w.grownBy w' v.ownBlock→(v'.ownBlock=v.ownBlock∨v'.ownBlock=some w.heap.size)→wpList P ops Q rest (a.put o.dst v') w'):wpList P ops Q (o :: rest) a w:=
 wpList_plain hgd fun _ hK=>fO w s x t ho base e i z size bytes ht hi hz hsize hby hzs hsz v n xs hs hown B A m c news hx hr h1 h63 hbytes hbase fun v' w' h2 h3 h4=>hK _ _ (h v' w' h2 h3 h4)
end
theorem nO (w:World) (cs:Array Value) (e:TypeId) (size m:Nat) (hl:cs.size=m*size) (hm:m≤9223372036854775807):Sl (w.alloc (.cells cs e)) (w.alloc (.cells cs e)).heap.size size (some ⟨w.heap.size,0,none⟩) m cs.toList:=
 (Bk.new w e cs).sl (by simpa using hl) hm fun _ _ h=>h
theorem iq (k:IntKind) (zs:List Int):∀u∈zs.map (Value.int k),u.oneCell'=true:=by intro u hu;obtain ⟨z,_,rfl⟩:=List.mem_map.1 hu;rfl
theorem aB {B base:Nat} {w0 w w' : World} {e:TypeId} {size n:Nat} {v:Value} {xs:List Value} (h:Below B w0 w) (hown:w.ownsRow base e size v n xs) (hg:w.grownBy w' v.ownBlock) (hB:B≤base) (hw:B≤w.heap.size):Below B w0 w':=
 h.grown hg hw fun k hk=>Nat.le_trans hB (hown.lt k hk).1
theorem dB {w:World} {base base' size n:Nat} {e:TypeId} {v:Value} {xs:List Value} (h:w.ownsRow base e size v n xs) (hb:base'≤base):w.ownsRow base' e size v n xs:=by obtain ⟨h2,h3⟩:=h;refine ⟨h2,h3.imp id ?_⟩;rintro ⟨g',cap,cur,e1,e2,r⟩;exact ⟨g',cap,cur,e1,Nat.le_trans hb e2,r⟩
theorem az {w w' : World} {base size n:Nat} {e:TypeId} {v:Value} {xs:List Value} (h:w.ownsRow base e size v n xs) (hb:Below w.heap.size w w'):w'.ownsRow base e size v n xs:=
 h.kept (row:=none) ⟨hb.os,hb.tape,hb.output,hb.size,fun k hk _=>hb.block k hk⟩ (by cases v.ownBlock <;> simp)
theorem bx {w w' : World} {base size n g:Nat} {e:TypeId} {v:Value} {xs:List Value} (h:w.ownsRow base e size v n xs) (hg:w.grownBy w' (some g)) (hne:v.ownBlock≠some g):w'.ownsRow base e size v n xs:=
 h.kept hg (.inr hne)
theorem aP {w:World} {base size n g:Nat} {e t:TypeId} {v:Value} {xs ys:List Value} (h:w.ownsRow base e size v n xs) (hg:Bk w g t ys) (hne:e≠t):v.ownBlock≠some g:=by
 rcases dA h with ⟨rfl,_⟩ | ⟨g',cap,zs,rfl,_,hb,_⟩
 ·simp [Value.ownBlock]
 ·intro he;have:g'=g:=by simpa [Value.ownBlock] using he
  subst this;exact hb.ne_ hg hne rfl
theorem mR (w:World) (e:TypeId) (size:Nat) (base:Nat) (h:base≤w.heap.size):(w.alloc (.cells #[] e)).ownsRow base e size (.slice (some ⟨w.heap.size,0,none⟩) 0 0) 0 []:=
 (Bk.new w e #[]).own h (Nat.le_refl _) (by omega) (by simp) (by simp)
theorem ai (w:World) (o:Obj):Below w.heap.size w (w.alloc o):=(Below.refl _ _).alloc (Nat.le_refl _) o
theorem ac (w:World) (B n:Nat):Below B w (w.drewN n):=⟨rfl,rfl,rfl,Nat.le_refl _,fun _ _=>rfl⟩
theorem ab {a b c:World} (h:Below a.heap.size a b) (k:Below b.heap.size b c):Below a.heap.size a c:=h.trans (k.mono h.size)
def eqL (xs ys:List Int):Bool:=decide (xs=ys)
theorem jN (xs:List Int):eqL xs xs=true:=by simp [eqL]
theorem jj:∀(xs ys:List Int),xs.length=ys.length→((List.range xs.length).all fun i=>xs.getD i 0 == ys.getD i 0)=eqL xs ys
 | [],[],_=>rfl
 | x :: xs,y :: ys,h=>by have ih:=jj xs ys (by simpa using h);rw [List.length_cons,List.range_succ_eq_map,List.all_cons,List.all_map];simp only [List.getD_cons_zero,Function.comp_def,List.getD_cons_succ,ih];by_cases hx:x=y <;> simp [eqL,hx]
 | [],_ :: _,h=>by simp at h
 | _ :: _,[],h=>by simp at h
theorem gv {P:Program} {k:IntKind} (d:Nat) (t e:TypeId) (n:Nat) (ht:P.underlying t=some (.array n e)) (he:P.underlying e=some (.int k)) {i:TypeInfo} (hi:P.info? e=some i) (hsz:i.size=1) (xs ys:List Int) (hx:xs.length=n) (hy:ys.length=n) (w:World):(Op.equalIn (d+2) t (.agg (xs.map (Value.int k)).toArray) (.agg (ys.map (Value.int k)).toArray)).run P w=.ok (eqL xs ys) w:=by
 rw [←jj xs ys (hx.trans hy.symm),hx,List.range_eq_range',Op.equalIn];have hs:∀w,(sizeOf e).run P w=.ok 1 w:=fun w=>by simp [sizeOf,typeInfo,hi,hsz]
 simp only [Sem.run_bind,run_underlying ht,Result.andThen_ok,hs,Std.Legacy.Range.forIn_eq_forIn_range',Std.Legacy.Range.size,Nat.sub_zero,Nat.add_sub_cancel,Nat.div_one];have hl:∀i∈List.range' 0 n 1,i < n:=fun i hi=>by simpa using (List.mem_range'_1.1 hi).2
 generalize List.range' 0 n 1=l at hl ⊢;induction l with
 | nil=>simp
 | cons j l ih=>
  have hj:j < n:=hl j (by simp);have px:(part e (xs.map (Value.int k)).toArray (j*1)).run P w=.ok (.int k (xs.getD j 0)) w:=by simp [part,isAgg,run_underlying he,List.getD,List.getElem?_eq_getElem (show j < xs.length by omega)]
  have py:(part e (ys.map (Value.int k)).toArray (j*1)).run P w=.ok (.int k (ys.getD j 0)) w:=by simp [part,isAgg,run_underlying he,List.getD,List.getElem?_eq_getElem (show j < ys.length by omega)]
  have pe:(Op.equalIn (d+1) e (.int k (xs.getD j 0)) (.int k (ys.getD j 0))).run P w=.ok (xs.getD j 0 == ys.getD j 0) w:=run_equalIn_int w d e k k _ _ he;simp only [List.forIn_cons,Sem.run_bind,px,py,pe,Result.andThen_ok,List.all_cons];cases hb:(xs.getD j 0 == ys.getD j 0)
  ·simp
  ·simp only [Bool.not_true,Bool.false_eq_true,if_false,Sem.run_pure,Result.andThen_ok,Bool.true_and];exact ih fun i hi=>hl i (by simp [hi])
theorem mS {a w:World} {row:Option Nat} (h:a.grownBy w row):a.grownBy w.drew row:=⟨h.os,h.tape,h.output,h.size,h.block⟩
theorem qE {a w:World} {row:Option Nat} (h:a.grownBy w row) (n:Nat):a.grownBy (w.drewN n) row:=⟨h.os,h.tape,h.output,h.size,h.block⟩
theorem bg {a w:World} {g:Nat} (h:a.grownBy w (some g)) (i:Nat) (u:Value):a.grownBy (w.setCell ⟨g,i,none⟩ u) (some g):=
 ⟨h.os,h.tape,h.output,by simpa [World.setCell] using h.size,fun k hk hne=>(Below.heap_setCell w ⟨g,i,none⟩ u k (by rintro rfl;exact hne rfl)).trans (h.block k hk hne)⟩
theorem dm {a w w' : World} {row:Option Nat} (h:a.grownBy w row) (hb:Below w.heap.size w w'):a.grownBy w' row:=
 ⟨hb.os.trans h.os,hb.tape.trans h.tape,hb.output.trans h.output,Nat.le_trans h.size hb.size,fun i hi hne=>(hb.block i (Nat.lt_of_lt_of_le hi h.size)).trans (h.block i hi hne)⟩
theorem fP {a b c:World} {row:Option Nat} (h:a.grownBy b row) (k:b.grownBy c row):a.grownBy c row:=
 ⟨k.os.trans h.os,k.tape.trans h.tape,k.output.trans h.output,Nat.le_trans h.size k.size,fun i hi hne=>(k.block i (Nat.lt_of_lt_of_le hi h.size) hne).trans (h.block i hi hne)⟩
theorem ag {B:Nat} {w0 w w' : World} {g:Nat} (h:Below B w0 w) (hg:w.grownBy w' (some g)) (hB:B≤w.heap.size) (hgB:B≤g):Below B w0 w':=
 h.grown hg hB fun k hk=>by injection hk with hk;omega
theorem cF {α:Type} {l:List α} {k:Nat} {z:α} (h:l[k]?=some z):l.take (k+1)=l.take k ++ [z]:=by rw [List.take_add_one,h];rfl
theorem dJ {α:Type} {l:List α} {k:Nat} {z:α} (h:l[k]?=some z):l.drop k=z :: l.drop (k+1):=by obtain ⟨hl,rfl⟩:=List.getElem?_eq_some_iff.1 h;exact List.drop_eq_getElem_cons hl
section
variable {w w' : World} {B B' size n:Nat} {A:Option Addr} {xs:List Value}
theorem Sl.atg {α:Type} {f:α→Value} {zs:List α} {k:Nat} (h:Sl w B 1 A n (zs.map f)) (hk:k < n):∃ad z,A=some ad∧ad.block < B∧zs[k]?=some z∧w.cell? (ad.add k)=some (f z):=by
 obtain ⟨ad,e,hb,hc⟩:=h.mem (by omega);have hl:k < zs.length:=by have:=h.len;simp at this;omega
 exact ⟨ad,zs[k],e,hb,List.getElem?_eq_getElem hl,hc k _ (by simp [hl])⟩
theorem Sl.cellN {α:Type} {f:α→List Value} {zs:List α} {k m:Nat} (hf:∀z,(f z).length=m) (h:Sl w B m A n (zs.flatMap f)) (hk:k < n) (hz:zs.length=n):∃ad z,A=some ad∧ad.block < B∧zs[k]?=some z∧∀(j:Nat) (u:Value),(f z)[j]?=some u→w.cell? (ad.add (k*m+j))=some u:=by
 obtain ⟨ad,e,hb,hc⟩:=h.mem (by omega);have hl:k < zs.length:=by omega
 refine ⟨ad,zs[k],e,hb,List.getElem?_eq_getElem hl,fun j u hu=>hc _ _ ?_⟩;have hfl:∀(l:List α) (i:Nat),i < l.length→∀(q:List Value),l[i]?.map f=some q→(j:Nat)→j < m→(l.flatMap f)[i*m+j]?=q[j]?:=by
  intro l;induction l with
  | nil=>intro i hi;simp at hi
  | cons x l ih=>
   intro i hi q hq j hj;cases i with
   | zero=>simp at hq;subst hq;rw [List.flatMap_cons,List.getElem?_append_left (by rw [hf];omega)];simp
   | succ i=>
    rw [List.flatMap_cons,List.getElem?_append_right (by rw [hf,Nat.succ_mul];omega),hf];have:(i+1)*m+j - m=i*m+j:=by rw [Nat.succ_mul];omega
    rw [this];exact ih i (by simpa using hi) q (by simpa using hq) j hj
 have hj:j < m:=by have:=(List.getElem?_eq_some_iff.1 hu).1;rw [hf] at this;exact this
 rw [hfl zs k hl (f zs[k]) (by simp [hl]) j hj];exact hu
end
theorem fH (b o k:Nat):(⟨b,o,none⟩:Addr).add k=⟨b,o+k,none⟩:=by unfold Addr.add;split <;> simp_all
theorem Sl.spot {w:World} {B m n:Nat} {A:Option Addr} {xs:List Value} (h:Sl w B m A n xs) (hn:0 < n) (hm:0 < m):∃b o,A=some ⟨b,o,none⟩∧b < B∧∀(j:Nat) (u:Value),xs[j]?=some u→w.cell? ⟨b,o+j,none⟩=some u:=by
 obtain ⟨ad,rfl,hb,hc⟩:=h.mem hn;have hl:0 < xs.length:=by rw [h.len];exact Nat.mul_pos hn hm
 have h0:=hc 0 _ (List.getElem?_eq_getElem hl);have hs:ad.spot=none:=by have:=World.cell?_spot h0;simpa [Addr.add] using this
 obtain ⟨b,o,sp⟩:=ad;simp at hs;subst hs;exact ⟨b,o,rfl,hb,fun j u hu=>by have:=hc j u hu;rwa [fH] at this⟩
theorem Sl.cellO {α:Type} {f:α→List Value} {zs:List α} {w:World} {B k m n:Nat} {A:Option Addr} (hf:∀z,(f z).length=m) (hm:0 < m) (h:Sl w B m A n (zs.flatMap f)) (hk:k < n) (hz:zs.length=n):∃b o z,A=some ⟨b,o,none⟩∧b < B∧zs[k]?=some z∧∀(j:Nat) (u:Value),(f z)[j]?=some u→w.cell? ⟨b,o+k*m+j,none⟩=some u:=by
 obtain ⟨b,o,rfl,hb,_⟩:=h.spot (by omega) hm;obtain ⟨ad,z,e,_,h1,h2⟩:=Sl.cellN hf h hk hz;injection e with e;subst e
 exact ⟨b,o,z,rfl,hb,h1,fun j u hu=>by have:=h2 j u hu;rwa [fH,←Nat.add_assoc] at this⟩
theorem pb {z:Value} {n:Nat} : (madeCells #[z] n).toList=List.replicate n z:=toList_madeCells_one z n
theorem q1 {α:Type} (l:List α) (i:Nat) (x:α):l.toArray.setIfInBounds i x=(l.set i x).toArray:=List.setIfInBounds_toArray ..
theorem q2 {α:Type} (a b:α) (l:List α):(a :: l).set 0 b=b :: l:=rfl
theorem q3 {α:Type} (a b:α) (l:List α) (i:Nat):(a :: l).set (i+1) b=a :: l.set i b:=rfl
theorem q4 {α:Type} (l:List α) (i:Nat) (h:i < l.toArray.size):l.toArray[i]'h=l[i]'(by simpa using h):=List.getElem_toArray ..
theorem q5 {α:Type} (a:α) (l:List α) (h:0 < (a :: l).length):(a :: l)[0]'h=a:=rfl
theorem q6 {α:Type} (a:α) (l:List α) (i:Nat) (h:i+1 < (a :: l).length):(a :: l)[i+1]'h=l[i]'(Nat.lt_of_succ_lt_succ h):=rfl
section
variable {P:Program} {ops:Array Oper} {Q:Exit→Act→World→Prop} {md:Region.Mode} {S:World→Prop}
theorem tk (i:Nat) {oi:Oper} {v:Value} {fuel:Nat} {listed listed' : Array Bool} {a a' : Act} {w:World} (h:wpAnyH P md ops Q S fuel listed' a' w) (hi:ops[i]?=some oi:=by exact rfl) (hs:Region.noSelect ops=true:=by kernel_rfl) (hf:Region.free md ops listed i=true:=by kernel_rfl) (hr:(Region.ready md ops listed).contains i=true:=by kernel_rfl)
  (hQ:∀c a w,Q (.panic c) (a.put oi.dst v) w→Q (.panic c) a w:=by exact fun _ _ _ h=>h) (hw:Region.wanted oi (yielded ops a.tmps)=true:=by rfl)
  (hy:∀w,S w→(execOp a.eval oi).run P w=.ok (.value v) w:=by (intro w hSw;(try dsimp only at hSw);go_simp;try with_reducible rfl)) (hS:S w:=by assumption) (he:listed.setIfInBounds i true=listed'∧a.put oi.dst v=a':=by first | (simp only [Act.put,q1,q2,q3,q4,q5,q6];exact ⟨rfl,rfl⟩) | exact ⟨rfl,rfl⟩):wpAnyH P md ops Q S (fuel+1) listed a w:=by
 obtain ⟨rfl,rfl⟩:=he;exact wpAnyH_take hi hs hf hr hQ (Or.inl ⟨hw,hy⟩) hS h
theorem tkv (i:Nat) {oi:Oper} {v:Value} {fuel:Nat} {listed listed' : Array Bool} {a a' : Act} {w:World} (hi:ops[i]?=some oi) (hy:∀w,S w→(execOp a.eval oi).run P w=.ok (.value v) w) (h:wpAnyH P md ops Q S fuel listed' a' w) (hs:Region.noSelect ops=true:=by kernel_rfl) (hf:Region.free md ops listed i=true:=by kernel_rfl) (hr:(Region.ready md ops listed).contains i=true:=by kernel_rfl)
  (hQ:∀c a w,Q (.panic c) (a.put oi.dst v) w→Q (.panic c) a w:=by exact fun _ _ _ h=>h) (hw:Region.wanted oi (yielded ops a.tmps)=true:=by rfl)
  (hS:S w:=by assumption) (he:listed.setIfInBounds i true=listed'∧a.put oi.dst v=a':=by first | (simp only [Act.put,q1,q2,q3,q4,q5,q6];exact ⟨rfl,rfl⟩) | exact ⟨rfl,rfl⟩):wpAnyH P md ops Q S (fuel+1) listed a w:=by
 obtain ⟨rfl,rfl⟩:=he;exact wpAnyH_take hi hs hf hr hQ (Or.inl ⟨hw,hy⟩) hS h
theorem tkR (i:Nat) (cs:List Value) {oi:Oper} {fuel:Nat} {listed listed' : Array Bool} {a a' : Act} {w:World} {b o:Nat} {d:TypeDesc} {ty:TypeId} {x:Operand} (hc:∀w,S w→w.rangeAt b o cs) (hu:P.underlying ty=some d) (hz:(P.info? ty).map (·.size)=some cs.length) (h:wpAnyH P md ops Q S fuel listed' a' w) (hi:ops[i]?=some oi:=by exact rfl) (ho:oi.op=.load ty x:=by exact rfl) (hx:a.eval x=.pointer (some ⟨b,o,none⟩):=by exact rfl) (hs:Region.noSelect ops=true:=by kernel_rfl) (hf:Region.free md ops listed i=true:=by kernel_rfl) (hr:(Region.ready md ops listed).contains i=true:=by kernel_rfl)
  (hQ:∀c a' w,Q (.panic c) (a'.put oi.dst (.agg cs.toArray)) w→Q (.panic c) a' w:=by exact fun _ _ _ h=>h) (hw:Region.wanted oi (yielded ops a.tmps)=true:=by rfl)
  (hd:d.isRow=true:=by rfl) (hS:S w:=by assumption) (he:listed.setIfInBounds i true=listed'∧a.put oi.dst (.agg cs.toArray)=a':=by first | (simp only [Act.put,q1,q2,q3,q4,q5,q6];exact ⟨rfl,rfl⟩) | exact ⟨rfl,rfl⟩):wpAnyH P md ops Q S (fuel+1) listed a w:=by
 obtain ⟨rfl,rfl⟩:=he;exact wpAnyH_take hi hs hf hr hQ (yieldsIf_load_mid hw ty x ho b o hx cs d hc hu hd hz) hS h
theorem tk0 (i:Nat) {oi:Oper} {fuel:Nat} {listed listed' : Array Bool} {a a' : Act} {w:World} (h:wpAnyH P md ops Q S fuel listed' a' w) (hi:ops[i]?=some oi:=by exact rfl) (hs:Region.noSelect ops=true:=by kernel_rfl) (hf:Region.free md ops listed i=true:=by kernel_rfl) (hr:(Region.ready md ops listed).contains i=true:=by kernel_rfl)
  (hQ:∀c a w,Q (.panic c) (a.put oi.dst undef) w→Q (.panic c) a w:=by exact fun _ _ _ h=>h) (hw:Region.wanted oi (yielded ops a.tmps)=false:=by rfl)
  (hS:S w:=by assumption) (he:listed.setIfInBounds i true=listed'∧a.put oi.dst undef=a':=by first | (simp only [Act.put,q1,q2,q3,q4,q5,q6];exact ⟨rfl,rfl⟩) | exact ⟨rfl,rfl⟩):wpAnyH P md ops Q S (fuel+1) listed a w:=by
 obtain ⟨rfl,rfl⟩:=he;exact wpAnyH_take hi hs hf hr hQ (Or.inr ⟨hw,rfl⟩) hS h
theorem rd1 (i:Nat) {o:Oper} {fuel:Nat} {listed:Array Bool} {a:Act} {w:World} (h:∀K' : Act→World→Prop,Shut (∀a w,S w→(S w→wpAnyH P md ops Q S fuel (listed.setIfInBounds i true) a w)→K' a w)→if Region.wanted o (yielded ops a.tmps)=true then Oper.wp P o a w K' Q else K' (a.put o.dst undef) w) (ho:ops[i]?=some o:=by exact rfl) (hr:Region.ready md ops listed=[i]:=by kernel_rfl):wpAnyH P md ops Q S (fuel+1) listed a w:=
 wpAnyH_ready hr (by simp) (AllReadyH.cons ho h AllReadyH.nil)
theorem rdw (i:Nat) {o:Oper} {fuel:Nat} {listed:Array Bool} {a:Act} {w:World} (h:∀K' : Act→World→Prop,Shut (∀a w,S w→(S w→wpAnyH P md ops Q S fuel (listed.setIfInBounds i true) a w)→K' a w)→Oper.wp P o a w K' Q) (ho:ops[i]?=some o:=by exact rfl) (hr:Region.ready md ops listed=[i]:=by kernel_rfl) (hw:Region.wanted o (yielded ops a.tmps)=true:=by rfl):wpAnyH P md ops Q S (fuel+1) listed a w:=
 rd1 i (fun K hK=>by rw [if_pos hw];exact h K hK) ho hr
theorem so {fuel:Nat} {listed listed' : Array Bool} {a a' : Act} {w:World} {K:Act→World→Prop} (hK:Shut (∀a w,S w→(S w→wpAnyH P md ops Q S fuel listed a w)→K a w)) (hs:S w) (h:S w→wpAnyH P md ops Q S fuel listed' a' w) (he:listed=listed'∧a=a':=by first | (simp only [Act.put,q1,q2,q3,q4,q5,q6];exact ⟨rfl,rfl⟩) | exact ⟨rfl,rfl⟩):K a w:=by obtain ⟨rfl,rfl⟩:=he;exact hK.out _ _ hs h
end
section
inductive Es where
 | nil:Es
 | cons (op n:Int) (nm:ByteArray) (A:Option Addr) (N C:Nat) (kids rest:Es):Es
def exC (op n:Int) (nm:ByteArray) (A:Option Addr) (N C:Nat):List Value:=[.int .i64 op,.int .i64 n,.string nm,.slice A N C]
namespace Es
def cells:Es→List Value
 | nil=>[]
 | cons op n nm A N C _ r=>exC op n nm A N C ++ r.cells
def len:Es→Nat
 | nil=>0
 | cons _ _ _ _ _ _ _ r=>r.len+1
def size:Es→Nat
 | nil=>0
 | cons _ _ _ _ _ _ k r=>k.size+r.size+1
def drop:Nat→Es→Es
 | 0,F=>F
 | _+1,nil=>nil
 | k+1,cons _ _ _ _ _ _ _ r=>r.drop k
def Ok:Es→Prop
 | nil=>True
 | cons op n nm _ N C k r=>(-9223372036854775808≤op∧op < 9223372036854775808)∧(-9223372036854775808≤n∧n < 9223372036854775808)∧nm.size≤1048576∧N≤C∧k.len=N∧k.Ok∧r.Ok
def At (w:World) (B:Nat):Es→Prop
 | nil=>True
 | cons _ _ _ A N _ k r=>Sl w B 4 A N k.cells∧k.At w B∧r.At w B
theorem cells_len:∀F:Es,F.cells.length=F.len*4
 | nil=>rfl
 | cons _ _ _ _ _ _ _ r=>by simp only [cells,len,List.length_append,cells_len r,exC,List.length_cons,List.length_nil];omega
theorem len_size:∀F:Es,F.len≤F.size
 | nil=>Nat.le_refl _
 | cons _ _ _ _ _ _ k r=>by have:=len_size r;simp only [len,size];omega
theorem drop_zero (F:Es):F.drop 0=F:=by cases F <;> rfl
theorem drop_cells:∀(k:Nat) (F:Es),(F.drop k).cells=F.cells.drop (4*k)
 | 0,F=>by rw [drop_zero];rfl
 | k+1,nil=>by simp [drop,cells]
 | k+1,cons op n nm A N C _ r=>by rw [drop,drop_cells k r,cells,show 4*(k+1)=4+4*k by omega,←List.drop_drop];rfl
theorem drop_len:∀(k:Nat) (F:Es),(F.drop k).len=F.len - k
 | 0,F=>by rw [drop_zero];rfl
 | k+1,nil=>by simp [drop,len]
 | k+1,cons _ _ _ _ _ _ _ r=>by rw [drop,drop_len k r,len];omega
theorem drop_size:∀(k:Nat) (F:Es),(F.drop k).size≤F.size
 | 0,F=>by rw [drop_zero];exact Nat.le_refl _
 | k+1,nil=>Nat.le_refl _
 | k+1,cons _ _ _ _ _ _ _ r=>by rw [drop,size];have:=drop_size k r;omega
theorem drop_at {k:Nat} : ∀{F:Es},k < F.len→∃op n nm A N C kids rest,F.drop k=cons op n nm A N C kids rest∧F.drop (k+1)=rest:=by
 induction k with
 | zero=>
  intro F h;cases F with
  | nil=>simp [len] at h
  | cons op n nm A N C kids rest=>exact ⟨op,n,nm,A,N,C,kids,rest,rfl,by rw [drop,drop_zero]⟩
 | succ k ih=>
  intro F h;cases F with
  | nil=>simp [len] at h
  | cons op n nm A N C kids rest=>simp only [len] at h;obtain ⟨op',n',nm',A',N',C',kids',rest',e,e'⟩:=ih (F:=rest) (by omega);exact ⟨op',n',nm',A',N',C',kids',rest',by rw [drop,e],by rw [drop,e']⟩
theorem drop_end {k:Nat} {F:Es} (h:F.len≤k):F.drop k=nil:=by
 have:=drop_len k F;cases e:F.drop k with
 | nil=>rfl
 | cons _ _ _ _ _ _ _ r=>rw [e] at this;simp only [len] at this;omega
theorem Ok.drop:∀{F:Es} (k:Nat),F.Ok→(F.drop k).Ok
 | F,0,h=>by rw [drop_zero];exact h
 | nil,k+1,h=>trivial
 | cons _ _ _ _ _ _ _ r,k+1,h=>by rw [Es.drop];exact Ok.drop k h.2.2.2.2.2.2
section
variable {w w' : World} {B B' : Nat}
theorem At.keep:∀{F:Es},F.At w B→(∀p:Addr,p.block < B→w'.cell? p=w.cell? p)→F.At w' B
 | nil,_,_=>trivial
 | cons _ _ _ _ _ _ _ _,h,hk=>⟨h.1.keep hk,At.keep h.2.1 hk,At.keep h.2.2 hk⟩
theorem At.more:∀{F:Es},F.At w B→B≤B'→F.At w B'
 | nil,_,_=>trivial
 | cons _ _ _ _ _ _ _ _,h,hB=>⟨h.1.more hB,At.more h.2.1 hB,At.more h.2.2 hB⟩
theorem At.below {F:Es} (h:F.At w B) (hb:Below B w w'):F.At w' B:=h.keep fun _ hp=>hb.cell hp
theorem At.later {F:Es} (h:F.At w w.heap.size) (hb:Below w.heap.size w w'):F.At w' w'.heap.size:=(h.below hb).more hb.size
theorem At.drop:∀{F:Es} (k:Nat),F.At w B→(F.drop k).At w B
 | F,0,h=>by rw [drop_zero];exact h
 | nil,k+1,h=>trivial
 | cons _ _ _ _ _ _ _ r,k+1,h=>by rw [Es.drop];exact At.drop k h.2.2
end
end Es
structure de (w:World) (B:Nat) (A:Option Addr) (N:Nat) (F:Es):Prop where
 sl:Sl w B 4 A N F.cells
 at_:F.At w B
 ok:F.Ok
section
variable {w w' : World} {B B' N:Nat} {A:Option Addr} {F:Es}
theorem de.len (h:de w B A N F):F.len=N:=by have:=h.sl.len;rw [Es.cells_len] at this;omega
theorem de.below (h:de w B A N F) (hb:Below B w w'):de w' B A N F:=⟨h.sl.below hb,h.at_.below hb,h.ok⟩
theorem de.more (h:de w B A N F) (hB:B≤B'):de w B' A N F:=⟨h.sl.more hB,h.at_.more hB,h.ok⟩
theorem de.later (h:de w w.heap.size A N F) (hb:Below w.heap.size w w'):de w' w'.heap.size A N F:=⟨h.sl.later hb,h.at_.later hb,h.ok⟩
theorem de.nil (w:World) (B:Nat):de w B none 0 .nil:=⟨Sl.nil,trivial,trivial⟩
theorem de.spot (h:de w B A N F) {k:Nat} (hk:k < N):∃(b o:Nat) (op n:Int) (nm:ByteArray) (A' : Option Addr) (N' C' : Nat) (kids rest:Es),A=some ⟨b,o,none⟩∧b < B∧w.rangeAt b (o+k*4) (exC op n nm A' N' C')∧F.drop k=.cons op n nm A' N' C' kids rest∧F.drop (k+1)=rest∧de w B A' N' kids∧(-9223372036854775808≤op∧op < 9223372036854775808)∧(-9223372036854775808≤n∧n < 9223372036854775808)∧nm.size≤1048576∧N'≤C'∧kids.size < F.size:=by
 obtain ⟨op,n,nm,A',N',C',kids,rest,e,e'⟩:=Es.drop_at (F:=F) (k:=k) (by rw [h.len];exact hk);obtain ⟨b,o,hA,hb,hc⟩:=h.sl.spot (by omega) (by omega);have hat:=h.at_.drop k;have hok:=h.ok.drop k;have hsz:=Es.drop_size k F;rw [e] at hat hok hsz;refine ⟨b,o,op,n,nm,A',N',C',kids,rest,hA,hb,fun j v hv=>?_,e,e',⟨hat.1,hat.2.1,hok.2.2.2.2.2.1⟩,hok.1,hok.2.1,hok.2.2.1,hok.2.2.2.1,by simp only [Es.size] at hsz;omega⟩;have hj:j < 4:=(List.getElem?_eq_some_iff.1 hv).1;have h1:F.cells[k*4+j]?=some v:=by
  have h2:(F.drop k).cells[j]?=some v:=by rw [e,Es.cells,List.getElem?_append_left (by simpa [exC] using hj)];exact hv
  rw [Es.drop_cells,List.getElem?_drop] at h2;rw [show k*4+j=4*k+j by omega];exact h2
 have:=hc _ _ h1;rwa [←Nat.add_assoc] at this
end
inductive Ss where
 | nil:Ss
 | cons (kd:Int) (nm:ByteArray) (A:Option Addr) (N C:Nat) (E:Es) (lo hi:Int) (A1:Option Addr) (N1 C1:Nat) (L:Ss) (A2:Option Addr) (N2 C2:Nat) (M rest:Ss):Ss
def aR (kd:Int) (nm:ByteArray) (A:Option Addr) (N C:Nat) (lo hi:Int) (A1:Option Addr) (N1 C1:Nat) (A2:Option Addr) (N2 C2:Nat):List Value:=
 [.int .i64 kd,.string nm,.slice A N C,.int .i64 lo,.int .i64 hi,.slice A1 N1 C1,.slice A2 N2 C2]
namespace Ss
def cells:Ss→List Value
 | nil=>[]
 | cons kd nm A N C _ lo hi A1 N1 C1 _ A2 N2 C2 _ r=>aR kd nm A N C lo hi A1 N1 C1 A2 N2 C2 ++ r.cells
def len:Ss→Nat
 | nil=>0
 | cons _ _ _ _ _ _ _ _ _ _ _ _ _ _ _ _ r=>r.len+1
def size:Ss→Nat
 | nil=>0
 | cons _ _ _ _ _ E _ _ _ _ _ L _ _ _ M r=>E.size+L.size+M.size+r.size+1
def drop:Nat→Ss→Ss
 | 0,F=>F
 | _+1,nil=>nil
 | k+1,cons _ _ _ _ _ _ _ _ _ _ _ _ _ _ _ _ r=>r.drop k
def Ok:Ss→Prop
 | nil=>True
 | cons kd nm _ N C E lo hi _ N1 C1 L _ N2 C2 M r=>(-9223372036854775808≤kd∧kd < 9223372036854775808)∧nm.size≤1048576∧(-9223372036854775808≤lo∧lo < 9223372036854775808)∧(-9223372036854775808≤hi∧hi < 9223372036854775808)∧(N≤C∧N1≤C1∧N2≤C2)∧(E.len=N∧L.len=N1∧M.len=N2)∧E.Ok∧L.Ok∧M.Ok∧r.Ok
def At (w:World) (B:Nat):Ss→Prop
 | nil=>True
 | cons _ _ A N _ E _ _ A1 N1 _ L A2 N2 _ M r=>(Sl w B 4 A N E.cells∧E.At w B)∧(Sl w B 7 A1 N1 L.cells∧L.At w B)∧(Sl w B 7 A2 N2 M.cells∧M.At w B)∧r.At w B
theorem cells_len:∀F:Ss,F.cells.length=F.len*7
 | nil=>rfl
 | cons _ _ _ _ _ _ _ _ _ _ _ _ _ _ _ _ r=>by simp only [cells,len,List.length_append,cells_len r,aR,List.length_cons,List.length_nil];omega
theorem len_size:∀F:Ss,F.len≤F.size
 | nil=>Nat.le_refl _
 | cons _ _ _ _ _ _ _ _ _ _ _ _ _ _ _ _ r=>by have:=len_size r;simp only [len,size];omega
theorem drop_zero (F:Ss):F.drop 0=F:=by cases F <;> rfl
theorem drop_cells:∀(k:Nat) (F:Ss),(F.drop k).cells=F.cells.drop (7*k)
 | 0,F=>by rw [drop_zero];rfl
 | k+1,nil=>by simp [drop,cells]
 | k+1,cons kd nm A N C _ lo hi A1 N1 C1 _ A2 N2 C2 _ r=>by rw [drop,drop_cells k r,cells,show 7*(k+1)=7+7*k by omega,←List.drop_drop];rfl
theorem drop_len:∀(k:Nat) (F:Ss),(F.drop k).len=F.len - k
 | 0,F=>by rw [drop_zero];rfl
 | k+1,nil=>by simp [drop,len]
 | k+1,cons _ _ _ _ _ _ _ _ _ _ _ _ _ _ _ _ r=>by rw [drop,drop_len k r,len];omega
theorem drop_size:∀(k:Nat) (F:Ss),(F.drop k).size≤F.size
 | 0,F=>by rw [drop_zero];exact Nat.le_refl _
 | k+1,nil=>Nat.le_refl _
 | k+1,cons _ _ _ _ _ _ _ _ _ _ _ _ _ _ _ _ r=>by rw [drop,size];have:=drop_size k r;omega
theorem drop_at {k:Nat} : ∀{F:Ss},k < F.len→∃kd nm A N C E lo hi A1 N1 C1 L A2 N2 C2 M rest,F.drop k=cons kd nm A N C E lo hi A1 N1 C1 L A2 N2 C2 M rest∧F.drop (k+1)=rest:=by
 induction k with
 | zero=>
  intro F h;cases F with
  | nil=>simp [len] at h
  | cons kd nm A N C E lo hi A1 N1 C1 L A2 N2 C2 M rest=>exact ⟨kd,nm,A,N,C,E,lo,hi,A1,N1,C1,L,A2,N2,C2,M,rest,rfl,by rw [drop,drop_zero]⟩
 | succ k ih=>
  intro F h;cases F with
  | nil=>simp [len] at h
  | cons kd nm A N C E lo hi A1 N1 C1 L A2 N2 C2 M rest=>simp only [len] at h;obtain ⟨kd',nm',A',N',C',E',lo',hi',A1',N1',C1',L',A2',N2',C2',M',rest',e,e'⟩:=ih (F:=rest) (by omega);exact ⟨kd',nm',A',N',C',E',lo',hi',A1',N1',C1',L',A2',N2',C2',M',rest',by rw [drop,e],by rw [drop,e']⟩
theorem drop_end {k:Nat} {F:Ss} (h:F.len≤k):F.drop k=nil:=by
 have:=drop_len k F;cases e:F.drop k with
 | nil=>rfl
 | cons _ _ _ _ _ _ _ _ _ _ _ _ _ _ _ _ r=>rw [e] at this;simp only [len] at this;omega
theorem Ok.drop:∀{F:Ss} (k:Nat),F.Ok→(F.drop k).Ok
 | F,0,h=>by rw [drop_zero];exact h
 | nil,k+1,h=>trivial
 | cons _ _ _ _ _ _ _ _ _ _ _ _ _ _ _ _ r,k+1,h=>by rw [Ss.drop];exact Ok.drop k h.2.2.2.2.2.2.2.2.2
section
variable {w w' : World} {B B' : Nat}
theorem At.keep:∀{F:Ss},F.At w B→(∀p:Addr,p.block < B→w'.cell? p=w.cell? p)→F.At w' B
 | nil,_,_=>trivial
 | cons _ _ _ _ _ _ _ _ _ _ _ _ _ _ _ _ _,h,hk=>⟨⟨h.1.1.keep hk,h.1.2.keep hk⟩,⟨h.2.1.1.keep hk,At.keep h.2.1.2 hk⟩,⟨h.2.2.1.1.keep hk,At.keep h.2.2.1.2 hk⟩,At.keep h.2.2.2 hk⟩
theorem At.more:∀{F:Ss},F.At w B→B≤B'→F.At w B'
 | nil,_,_=>trivial
 | cons _ _ _ _ _ _ _ _ _ _ _ _ _ _ _ _ _,h,hB=>⟨⟨h.1.1.more hB,h.1.2.more hB⟩,⟨h.2.1.1.more hB,At.more h.2.1.2 hB⟩,⟨h.2.2.1.1.more hB,At.more h.2.2.1.2 hB⟩,At.more h.2.2.2 hB⟩
theorem At.below {F:Ss} (h:F.At w B) (hb:Below B w w'):F.At w' B:=h.keep fun _ hp=>hb.cell hp
theorem At.later {F:Ss} (h:F.At w w.heap.size) (hb:Below w.heap.size w w'):F.At w' w'.heap.size:=(h.below hb).more hb.size
theorem At.drop:∀{F:Ss} (k:Nat),F.At w B→(F.drop k).At w B
 | F,0,h=>by rw [drop_zero];exact h
 | nil,k+1,h=>trivial
 | cons _ _ _ _ _ _ _ _ _ _ _ _ _ _ _ _ r,k+1,h=>by rw [Ss.drop];exact At.drop k h.2.2.2
end
end Ss
structure cE (w:World) (B:Nat) (A:Option Addr) (N:Nat) (F:Ss):Prop where
 sl:Sl w B 7 A N F.cells
 at_:F.At w B
 ok:F.Ok
section
variable {w w' : World} {B B' N:Nat} {A:Option Addr} {F:Ss}
theorem cE.len (h:cE w B A N F):F.len=N:=by have:=h.sl.len;rw [Ss.cells_len] at this;omega
theorem cE.below (h:cE w B A N F) (hb:Below B w w'):cE w' B A N F:=⟨h.sl.below hb,h.at_.below hb,h.ok⟩
theorem cE.more (h:cE w B A N F) (hB:B≤B'):cE w B' A N F:=⟨h.sl.more hB,h.at_.more hB,h.ok⟩
theorem cE.later (h:cE w w.heap.size A N F) (hb:Below w.heap.size w w'):cE w' w'.heap.size A N F:=⟨h.sl.later hb,h.at_.later hb,h.ok⟩
theorem cE.nil (w:World) (B:Nat):cE w B none 0 .nil:=⟨Sl.nil,trivial,trivial⟩
structure iA (w:World) (B:Nat) (kd:Int) (nm:ByteArray) (A:Option Addr) (N C:Nat) (E:Es) (lo hi:Int) (A1:Option Addr) (N1 C1:Nat) (L:Ss) (A2:Option Addr) (N2 C2:Nat) (M:Ss):Prop where
 kd : -9223372036854775808≤kd∧kd < 9223372036854775808
 lo : -9223372036854775808≤lo∧lo < 9223372036854775808
 hi : -9223372036854775808≤hi∧hi < 9223372036854775808
 nm:nm.size≤1048576
 e:de w B A N E
 l:cE w B A1 N1 L
 m:cE w B A2 N2 M
 ec:N≤C
 lc:N1≤C1
 mc:N2≤C2
theorem cE.spot (h:cE w B A N F) {k:Nat} (hk:k < N):∃(b o:Nat) (kd:Int) (nm:ByteArray) (A' : Option Addr) (N' C' : Nat) (E:Es) (lo hi:Int) (A1:Option Addr) (N1 C1:Nat) (L:Ss) (A2:Option Addr) (N2 C2:Nat) (M rest:Ss),A=some ⟨b,o,none⟩∧b < B∧w.rangeAt b (o+k*7) (aR kd nm A' N' C' lo hi A1 N1 C1 A2 N2 C2)∧F.drop k=.cons kd nm A' N' C' E lo hi A1 N1 C1 L A2 N2 C2 M rest∧F.drop (k+1)=rest∧iA w B kd nm A' N' C' E lo hi A1 N1 C1 L A2 N2 C2 M∧E.size+L.size+M.size < F.size:=by
 obtain ⟨kd,nm,A',N',C',E,lo,hi,A1,N1,C1,L,A2,N2,C2,M,rest,e,e'⟩:=Ss.drop_at (F:=F) (k:=k) (by rw [h.len];exact hk);obtain ⟨b,o,hA,hb,hc⟩:=h.sl.spot (by omega) (by omega);have hat:=h.at_.drop k;have hok:=h.ok.drop k;have hsz:=Ss.drop_size k F;rw [e] at hat hok hsz;obtain ⟨o1,o2,o3,o4,⟨o5,o6,o7⟩,_,o8,o9,oa,_⟩:=hok;refine ⟨b,o,kd,nm,A',N',C',E,lo,hi,A1,N1,C1,L,A2,N2,C2,M,rest,hA,hb,fun j v hv=>?_,e,e',⟨o1,o3,o4,o2,⟨hat.1.1,hat.1.2,o8⟩,⟨hat.2.1.1,hat.2.1.2,o9⟩,⟨hat.2.2.1.1,hat.2.2.1.2,oa⟩,o5,o6,o7⟩,by simp only [Ss.size] at hsz;omega⟩;have hj:j < 7:=(List.getElem?_eq_some_iff.1 hv).1;have h1:F.cells[k*7+j]?=some v:=by
  have h2:(F.drop k).cells[j]?=some v:=by rw [e,Ss.cells,List.getElem?_append_left (by simpa [aR] using hj)];exact hv
  rw [Ss.drop_cells,List.getElem?_drop] at h2;rw [show k*7+j=7*k+j by omega];exact h2
 have:=hc _ _ h1;rwa [←Nat.add_assoc] at this
end
end
open Go.ChangeShapes Go.WideShapes Go.ChangeAt
open Go.ChangeMaps (open_string shut_string)
theorem Tryz.own_:ownKnob Tryz.prog.godebug=none:=by kernel_rfl
theorem Tryz.laid_:laidOutB Tryz.prog=true:=by kernel_rfl
theorem lb {w:World} {a:Addr} {v:Value} (h:w.cell? a=some v):a.block < w.heap.size:=World.block_lt_of_cell? w a h
end Go.Proofs.YtllbdpdnpaocnaaGreatDoor
