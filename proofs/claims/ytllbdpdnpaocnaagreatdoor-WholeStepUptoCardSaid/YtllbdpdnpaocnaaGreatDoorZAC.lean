/- Part of the proof of WholeStep. -/
import Derived.Test.YtllbdpdnpaocnaaGreatDoorZAB
import Derived.Deep.RegionHeld3
import Derived.Lib.AppendZeros
import Derived.Deep.DeepCutAuto
import Derived.Maps.OwnSet
import Derived.Maps.OwnOps
import Derived.Maps.Views
import Derived.BigQuiet
namespace Go.Proofs.YtllbdpdnpaocnaaGreatDoor
set_option linter.unusedSimpArgs false
set_option linter.unusedVariables false
set_option linter.constructorNameAsVariable false
open Go.RowKit
def dl (ds:List Int):List Value:=ds.map (Value.int .u8)
theorem bT (ds:List Int):(dl ds).length=ds.length:=by simp [dl]
theorem zv (ds:List Int):(dl ds).toArray=dgA ds:=rfl
def ak (p:Prop):Prop:=p
theorem ak.go {p:Prop} (h:p):ak p:=h
theorem ah {P:Program} {ops:Array Oper} {rest:List Oper} {o:Oper} {a:Act} {w:World} {Q:Exit→Act→World→Prop} (ty:TypeId) (x y:Operand) (_ho:o.op=.store ty x y) (h:ak (wpList P ops Q (o :: rest) a w)):wpList P ops Q (o :: rest) a w:=h
section
variable {P:Program}
theorem pf {o:Oper} {a:Act} {w:World} {K:Act→World→Prop} {Q:Exit→Act→World→Prop} (t:TypeId) (parts:Array (Nat × Operand)) (ho:o.op=.build t parts) (vals:Array (Nat × Value)) (hv:(parts.map fun x=>(x.1,a.eval x.2))=vals) (v:Value) (hb:(Instr.build t vals).run P w=.ok v w) (h:K (a.put o.dst v) w):o.wp P a w K Q:=by subst hv;unfold Oper.wp execOp;simp only [ho,Sem.run_bind,hb,Result.andThen_ok,Sem.run_pure];exact h
theorem aS {ops:Array Oper} {rest:List Oper} {o:Oper} {a:Act} {w:World} {Q:Exit→Act→World→Prop} (hgd:o.guard=none) (t:TypeId) (parts:Array (Nat × Operand)) (ho:o.op=.build t parts) (vals:Array (Nat × Value)) (hv:(parts.map fun x=>(x.1,a.eval x.2))=vals) (v:Value) (hb:(Instr.build t vals).run P w=.ok v w) (h:wpList P ops Q rest (a.put o.dst v) w):wpList P ops Q (o :: rest) a w:=
 wpList_plain hgd fun _ hK=>pf t parts ho vals hv v hb (hK _ _ h)
theorem bF {ops:Array Oper} {S:World→Prop} {o:Oper} {a:Act} (hw:Region.wanted o (yielded ops a.tmps)=true) (t:TypeId) (parts:Array (Nat × Operand)) (ho:o.op=.build t parts) (vals:Array (Nat × Value)) (hv:(parts.map fun x=>(x.1,a.eval x.2))=vals) (v:Value) (hb:∀w,(Instr.build t vals).run P w=.ok v w):YieldsIf P ops S o v a:=
 .inl ⟨hw,fun w _=>by
  subst hv;unfold execOp;simp only [ho,Sem.run_bind,hb,Result.andThen_ok,Sem.run_pure]⟩
end
theorem Bk.range {w:World} {g:Nat} {ty:TypeId} {pre sub post:List Value} (h:Bk w g ty (pre ++ (sub ++ post))) {o:Nat} (ho:pre.length=o):w.rangeAt g o sub:=fun j v hv=>by
 rw [h.cell,←ho,List.getElem?_append_right (by omega),show pre.length+j - pre.length=j by omega,List.getElem?_append_left (List.getElem?_eq_some_iff.1 hv).1];exact hv
theorem Bk.there {w:World} {g:Nat} {ty:TypeId} {xs:List Value} (h:Bk w g ty xs) (o n:Nat) (hn:o+n≤xs.length):w.there g o n:=fun j hj=>by
 rw [h.cell,List.getElem?_eq_getElem (by omega)];exact ⟨rfl,h.frozen _⟩
theorem Bk.setCells {g:Nat} {ty:TypeId} : ∀(vs:List Value) (o:Nat) {w:World} {pre sub post:List Value},Bk w g ty (pre ++ (sub ++ post))→pre.length=o→sub.length=vs.length→Bk (w.setCells g o vs) g ty (pre ++ (vs ++ post))
 | [],o,w,pre,sub,post,h,_,hs=>by obtain rfl:sub=[]:=List.eq_nil_of_length_eq_zero (by simpa using hs);exact h
 | v :: vs,o,w,pre,[],post,h,_,hs=>by simp at hs
 | v :: vs,o,w,pre,x :: sub,post,h,ho,hs=>by have h1:=h.set_ o v;rw [List.set_append,if_neg (by omega),ho,Nat.sub_self,List.cons_append,List.set_cons_zero] at h1;have h2:=Bk.setCells (g:=g) (ty:=ty) vs (o+1) (w:=w.setCell ⟨g,o,none⟩ v) (pre:=pre ++ [v]) (sub:=sub) (post:=post) (by simpa using h1) (by simp [ho]) (by simpa using hs);rw [World.setCells];simpa using h2
theorem lx {g:Nat} {w0:World} : ∀(vs:List Value) (o:Nat) {w:World},w0.grownBy w (some g)→w0.grownBy (w.setCells g o vs) (some g)
 | [],_,_,h=>h
 | v :: vs,o,w,h=>by rw [World.setCells];exact lx vs (o+1) (bg h o v)
theorem ly {g:Nat} : ∀(vs:List Value) (o:Nat) (w:World),(w.setCells g o vs).heap.size=w.heap.size
 | [],_,_=>rfl
 | v :: vs,o,w=>by rw [World.setCells,ly vs (o+1)];simp [World.setCell]
section
variable {P:Program}
structure Put (w w' : World) (g:Nat) (t:TypeId) (cs:List Value):Prop where
 bk:Bk w' g t cs
 only:w.grownBy w' (some g)
 size:w'.heap.size=w.heap.size
theorem ic {ops:Array Oper} {rest:List Oper} {o:Oper} {a:Act} {w:World} {Q:Exit→Act→World→Prop} (hgd:o.guard=none) (ty:TypeId) (x y:Operand) (ho:o.op=.store ty x y) (g:Nat) (cs:List Value) (hx:a.eval x=.pointer (some ⟨g,0,none⟩)) (hy:a.eval y=.agg cs.toArray) (t:TypeId) (old:List Value) (hb:Bk w g t old) (hi:(P.info? ty).map (·.size)=some cs.length) (hl:old.length=cs.length) (h1:∀v∈cs,v.oneCell'=true) (h:∀w',Put w w' g t cs→wpList P ops Q rest (a.put o.dst undef) w'):wpList P ops Q (o :: rest) a w:=
 wpList_store_row hgd ty x y ho g cs.toArray hx hy t old.toArray hb (by simpa using hi) (by simpa using hl) (all_oneCell_toArray h1)
  (h _ ⟨by simpa using Bk.row hb cs.toArray,oX (bO w g) _,by simp⟩)
theorem aj {ops:Array Oper} {rest:List Oper} {o:Oper} {a:Act} {w:World} {Q:Exit→Act→World→Prop} (hgd:o.guard=none) (ty:TypeId) (x:Operand) (ho:o.op=.load ty x) (g:Nat) (hx:a.eval x=.pointer (some ⟨g,0,none⟩)) (cs:List Value) (t:TypeId) (hb:Bk w g t cs) (d:TypeDesc) (hu:P.underlying ty=some d) (hd:(match d with | .struct _ | .array _ _=>true | _=>false)=true) (hi:(P.info? ty).map (·.size)=some cs.length) (h:wpList P ops Q rest (a.put o.dst (.agg cs.toArray)) w):wpList P ops Q (o :: rest) a w:=
 wpList_load_row hgd ty x ho g hx t cs.toArray (0,0) d hb hu hd (by simpa using hi) h
theorem bH {fn:Func} {p:Tmp} {ty:TypeId} (h:fn.results= #[.cell p ty]) (tmps:Array Value) (w:World) (g:Nat) (t:TypeId) (cs:List Value) (d:TypeDesc) (hp:tmps.getD p undef=.pointer (some ⟨g,0,none⟩)) (hg:Bk w g t cs) (hu:P.underlying ty=some d) (hd:(match d with | .struct _ | .array _ _=>true | _=>false)=true) (hi:(P.info? ty).map (·.size)=some cs.length):(results fn tmps).run P w=.ok (.agg cs.toArray) w:=results_cell_row h tmps w g t cs.toArray (0,0) d hp hg hu hd (by simpa using hi)
theorem kD (w:World) (b o:Nat) (ty:TypeId) (V:Value) (cs:List Value) (hV:V.cells=cs.toArray) (ht:w.there b o cs.length) (hi:(P.info? ty).map (·.size)=some cs.length) (h1:∀v∈cs,v.oneCell'=true):(Instr.storeAt ty (.pointer (some ⟨b,o,none⟩)) V).run P w=.ok () (w.setCells b o cs):=by
 have:=run_storeCells_cells (P:=P) b o cs 0 w (fun j hj=>by simpa using (ht j hj).1) (fun j hj=>by simpa using (ht j hj).2) h1;cases hq:P.info? ty with
 | none=>simp [hq] at hi
 | some i=>
  have hs:cs.length=i.size:=by simp [hq] at hi;omega
  simp only [Nat.add_zero] at this;simp [Instr.storeAt,Instr.sureAddr,storeVar,sizeOf,typeInfo,hq,hV,hs,this]
theorem au {op:Oper} {a:Act} {w:World} {K:Act→World→Prop} {Q:Exit→Act→World→Prop} (ty:TypeId) (x y:Operand) (ho:op.op=.store ty x y) (b o:Nat) (V:Value) (cs:List Value) (hx:a.eval x=.pointer (some ⟨b,o,none⟩)) (hy:a.eval y=V) (hV:V.cells=cs.toArray) (t:TypeId) (pre sub post:List Value) (hb:Bk w b t (pre ++ (sub ++ post))) (hp:pre.length=o) (hl:sub.length=cs.length) (hi:(P.info? ty).map (·.size)=some cs.length) (h1:∀v∈cs,v.oneCell'=true) (h:∀w',Put w w' b t (pre ++ (cs ++ post))→K (a.put op.dst undef) w'):op.wp P a w K Q:=by unfold Oper.wp execOp;simp only [ho,hx,hy,Sem.run_bind,Sem.run_pure,kD w b o ty V cs hV (hb.there o _ (by simp;omega)) hi h1,Result.andThen_ok];exact h _ ⟨Bk.setCells cs o hb hp hl,lx cs o (bO w b),ly _ _ _⟩
theorem ae {ops:Array Oper} {rest:List Oper} {op:Oper} {a:Act} {w:World} {Q:Exit→Act→World→Prop} (hgd:op.guard=none) (ty:TypeId) (x y:Operand) (ho:op.op=.store ty x y) (b o:Nat) (V:Value) (cs:List Value) (hx:a.eval x=.pointer (some ⟨b,o,none⟩)) (hy:a.eval y=V) (hV:V.cells=cs.toArray) (t:TypeId) (pre sub post:List Value) (hb:Bk w b t (pre ++ (sub ++ post))) (hp:pre.length=o) (hl:sub.length=cs.length) (hi:(P.info? ty).map (·.size)=some cs.length) (h1:∀v∈cs,v.oneCell'=true) (h:∀w',Put w w' b t (pre ++ (cs ++ post))→wpList P ops Q rest (a.put op.dst undef) w'):wpList P ops Q (op :: rest) a w:=
 wpList_plain hgd fun _ hK=>au ty x y ho b o V cs hx hy hV t pre sub post hb hp hl hi h1 fun w' hp'=>hK _ _ (h w' hp')
end
theorem xM:aO ap:=⟨rfl,fun b hb=>by simp [ap] at hb;omega⟩
structure Pc where
 A:Option Addr
 n:Nat
 c:Nat
 bs:List Int
def Pc.v (p:Pc):Value:=.slice p.A p.n p.c
def jU (w:World) (ps:List Pc):Prop:=∀p∈ps,Sl w w.heap.size 1 p.A p.n (p.bs.map (.int .u8))
theorem jU.later {w w' : World} {ps:List Pc} (h:jU w ps) (hb:Below w.heap.size w w'):jU w' ps:=fun p hp=>(h p hp).later hb
def fC:Nat→St→List Int→St
 | 0,s,_=>s
 | k+1,s,l=>fC k (fh s (eI (l.take 8))) (l.drop 8)
theorem kP:∀(k:Nat) (s:St) (l:List Int),fC (k+1) s l=fh (fC k s l) (eI ((l.drop (8*k)).take 8))
 | 0,s,l=>by simp [fC]
 | k+1,s,l=>by rw [fC,kP k,fC,List.drop_drop];congr 4;omega
def jt (l:List Int) (k:Nat):List Int:=(l.drop (8*k)).take 8
theorem uQ {l:List Int} (h:fz l) {k:Nat} (hk:8*k+8≤l.length):aO (jt l k):=⟨by simp [jt];omega,(h.drop _).take _⟩
theorem uR {w:World} {B n b o:Nat} {l:List Int} (h:Sl w B 1 (some ⟨b,o,none⟩) n (l.map (.int .u8))) {k:Nat} (hk:8*k+8≤n):w.rangeAt b (o+k*8) ((jt l k).map (.int .u8)):=by
 intro j v hv;obtain ⟨ad,e,_,hc⟩:=h.mem (by omega);injection e with e;subst e
 have hl:=h.length;rw [List.getElem?_map,jt,List.getElem?_take] at hv;by_cases hj:j < 8
 ·rw [if_pos hj,List.getElem?_drop] at hv;have:=hc (8*k+j) v (by rw [List.getElem?_map];exact hv);rw [fH] at this;rw [Nat.add_assoc,Nat.mul_comm k 8];exact this
 ·rw [if_neg hj] at hv;simp at hv
theorem jL (a:Addr) (c:Nat) (w:World):(Instr.arrayAt 45 (.slice (some a) 8 c)).run Tryz.prog w=.ok (.pointer (some a)) w:=by simp [Instr.arrayAt,run_underlying Tryz.underlying45]
set_option maxRecDepth 20000 in
theorem sY (w:World) (g:Nat) (s:St) (h:dR w g 222 s) (A:Option Addr) (n c:Nat) (bs:List Int) (hs:Sl w w.heap.size 1 A n (bs.map (.int .u8))) (hb:fz bs) (hc:n≤c) (hA:∀ad,A=some ad→ad.block≠g):Calls Tryz.prog 209 #[.pointer (some ⟨g,0,none⟩),.slice A n c] w fun e w'=>e=.returned (.tuple #[])∧dR w' g 222 (fC (n / 8) s bs)∧w.grownBy w' (some g):=by
 have hn:=hs.le;have HL:=aa hs.length;have hbs:=hs;have HST:=aa h;have HSL:=aa hs;have HBY:=aa hb;have HNA:=aa hA;have hq:8*(n / 8)≤n:=by omega
 obtain ⟨m,hm⟩:∃m,n / 8=m:=⟨_,rfl⟩;have hmi:((n:Int) / 8)=(m:Int):=by omega
 rw [hm] at hq ⊢;clear h hs hbs hb hA;go_enter Tryz.func209,Tryz.ntmps209;go_wp2_with fail
 go_loopw [8] (fun i wr=>∃k:Nat,k≤m∧i=.int .i64 k∧dR wr g 222 (fC k s bs)∧w.grownBy wr (some g)) (fun i _=>m - (intOf i).toNat)
 case atStart=>exact ⟨0,by omega,rfl,HST.out,bO _ _⟩
 case round=>
  obtain ⟨k,hk,rfl,hst,hg⟩:=hrel;by_cases hlt:k < m
  ·obtain ⟨b,o,rfl,hbb,_⟩:=HSL.spot (by omega) (by omega);have hng:=HNA.out _ rfl;have hsl:Sl wr wr.heap.size 1 (some ⟨b,o,none⟩) n (bs.map (.int .u8)):=lr HSL.out hg HNA.out;have hr:=uR hsl (k:=k) (by omega);have hok:=uQ HBY.out (k:=k) (by rw [HL.out];omega);have HST2:=aa hst;have HG:=aa hg;have HR:=aa hr;have HOK:=aa hok;clear hst hg hsl hr hok;have hk1:(k:Int) < m:=by omega
   have har:=jL ⟨b,o+k*8,none⟩ (c - k*8);have HI8:Hid ((Tryz.prog.info? 45).map (·.size)=some ((jt bs k).map (Value.int .u8)).length):=by show _=_;rw [List.length_map,HOK.len];exact iO
   go_wp2_with (refine wpList_load_mid rfl 45 _ rfl b (o+k*8) rfl ((jt bs k).map (.int .u8)) _ HR.out Tryz.underlying45 rfl HI8.out ?_)
   refine (iP (jt bs k) HOK.out _).mono ?_;rintro e w2 ⟨rfl,hb2⟩;have HS2:=aa (HST2.later hb2);have HG2:=aa (dm HG.out hb2);clear hb2;go_wp2_with fail
   refine (fi _ _ _ HS2.out _).mono ?_;rintro e w3 ⟨rfl,hs3,hg3⟩;have HS3:=aa hs3;have HG3:=aa (fP HG2.out hg3);clear hs3 hg3;go_wp2_with fail
   go_roundw
   case rel=>exact ⟨k+1,by omega,by go_num,by rw [kP];exact HS3.out,HG3.out⟩
   case measure=>simp [intOf];omega
  ·obtain rfl:k=m:=by omega
   have HST2:=aa hst;have HG:=aa hg;clear hst hg;go_wp2_with fail
   go_end0;exact ⟨rfl,HST2.out,HG.out⟩
def kQ (bs:List Int):List Int:=bs.drop (8*(bs.length / 8)) ++ 1 :: List.replicate (7 - bs.length % 8) 0
def zr (s:St) (bs:List Int):St:=fh (fh s (eI (kQ bs))) bs.length
def kA (s:St) (bs:List Int):St:=zr (fC (bs.length / 8) s bs) bs
theorem sr {bs:List Int} (h:fz bs):aO (kQ bs):=by
 refine ⟨by simp [kQ];omega,fun b hb=>?_⟩;simp only [kQ,List.mem_append,List.mem_cons,List.mem_replicate] at hb;rcases hb with hb | rfl | ⟨_,rfl⟩
 ·exact h.drop _ b hb
 ·omega
 ·omega
theorem sZ (bs:List Int) (n m:Nat) (hn:bs.length=n) (hm:n / 8=m):(splice ((List.replicate 8 0).map (Value.int .u8)) 0 ((bs.drop (8*m)).map (Value.int .u8))).set (n - 8*m) (.int .u8 1)=(kQ bs).map (Value.int .u8):=by
 subst hn;subst hm;have hl:(bs.drop (8*(bs.length / 8))).length=bs.length - 8*(bs.length / 8):=by simp
 unfold splice kQ;simp only [List.take_zero,List.nil_append,Nat.zero_add,List.length_map,hl,List.map_append,List.map_cons,List.map_replicate,List.drop_replicate];rw [List.set_append,if_neg (by simp),List.length_map,hl,Nat.sub_self];have e:8 - (bs.length - 8*(bs.length / 8))=(7 - bs.length % 8)+1:=by omega
 rw [e,List.replicate_succ,List.set_cons_zero]
set_option maxRecDepth 20000 in
set_option maxHeartbeats 400000 in
theorem xJ (w:World) (g:Nat) (s:St) (h:dR w g 222 s) (A:Option Addr) (n c:Nat) (bs:List Int) (hs:Sl w w.heap.size 1 A n (bs.map (.int .u8))) (hb:fz bs) (hc:n≤c):Calls Tryz.prog 210 #[.pointer (some ⟨g,0,none⟩),.slice A n c] w fun e w'=>e=.returned (.tuple #[])∧dR w' g 222 (zr s bs)∧w.grownBy w' (some g):=by
 have hn:=hs.le;have hlen:=hs.length;obtain ⟨m,hm⟩:∃m,n / 8=m:=⟨_,rfl⟩;have hmi:((n:Int) / 8)=(m:Int):=by omega
 have hll:=aa (sZ bs n m hlen hm);have hgl:g < w.heap.size:=Bk.lt h;obtain ⟨w1,hw1⟩:∃w1,w.alloc (.cells (dgA (List.replicate 8 0)) 45)=w1:=⟨_,rfl⟩;have hz:bU w1 w.heap.size 45 (List.replicate 8 0):=hw1▸cM w 45 (List.replicate 8 0);have hb1:Below w.heap.size w w1:=hw1▸ai w (.cells (dgA (List.replicate 8 0)) 45);have HZ:=aa hz;have HB1:=aa hb1;have HW:=aa hw1;have HS:=aa h;have HSL:=aa hs;have HY:=aa hb;have HL:=aa hlen;have hmn:m*8≤n:=by omega
 have h0m:(0:Int)≤(m:Int)*8:=by omega
 have h1m:(m:Int)*8≤n:=by omega
 have w1m:IntKind.i64.wrap (m:Int)=m:=IntWalk.i64_in _ (by omega);have w2m:IntKind.i64.wrap ((m:Int)*8)=(m:Int)*8:=IntWalk.i64_in _ (by omega);have w3m:((m:Int)*8).toNat=m*8:=by omega
 have W1:=aa w1m;have W2:=aa w2m;have W3:=aa w3m;clear w1m w2m w3m;have hm2:n < m*8+8:=by omega
 have hsrc:∀ad,A=some ad→∀(j:Nat) (v:Value),((bs.drop (8*m)).map (Value.int .u8))[j]?=some v→w1.cell? ((ad.add (m*8)).add j)=some v:=by
  intro ad e j v hv;have hj:8*m+j < n:=by have:=(List.getElem?_eq_some_iff.1 hv).1;simp [hlen] at this;omega
  obtain ⟨ad',e',hbl,hcc⟩:=(hs.below hb1).mem (by omega);rw [e] at e';injection e' with e';subst e'
  rw [List.getElem?_map,List.getElem?_drop] at hv;rw [jM,Nat.mul_comm m 8];exact hcc _ _ (by rw [List.getElem?_map];exact hv)
 have HSRC:=aa hsrc;have hAn:A=none→n=0:=by
  rintro rfl;rcases Nat.eq_zero_or_pos n with h0 | h0
  ·exact h0
  ·obtain ⟨_,e,_⟩:=hs.mem h0;cases e
 have HAN:=aa hAn;clear h hs hb hlen hz hb1 hw1 hsrc hAn;go_enter Tryz.func210,Tryz.ntmps210;go_upto_region 1 with fail
 rw [fj,HW.out];have w1m:=W1.out;have w2m:=W2.out;have w3m:=W3.out;go_still_tail 7,(by kernel_rfl);clear w1m w2m w3m;obtain ⟨A',hA'⟩:∃A',(if c=m*8 then A else Option.map (fun x=>x.add (m*8)) A)=A':=⟨_,rfl⟩;rw [hA'];change wpList _ _ _ _ _ w1.drew;have hcl:((bs.drop (8*m)).map (Value.int .u8)).length=n - m*8:=by simp [HL.out];omega
 refine wpList_copy_splice rfl (.tmp 6) (.tmp 12) 166 166 rfl 5 Tryz.underlying166 (by kernel_rfl) (some ⟨w.heap.size,0,none⟩) A' 8 8 (n - m*8) (c - m*8) rfl rfl w.heap.size 0
  ((List.replicate 8 0).map (.int .u8)) 45 HZ.out ((bs.drop (8*m)).map (.int .u8)) (by rw [hcl];exact (Nat.min_eq_left (by omega)).symm) (fun hp=>?_) (by rw [hcl];simp;omega) (iq _ _) w.heap.size w (HB1.trans (ac w1 _ 1)) (Nat.le_refl _) ?_
 ·refine ⟨rfl,?_⟩;rw [hcl] at hp;have hcm:c≠m*8:=by omega
  rw [if_neg hcm] at hA';cases hA:A with
  | none=>have:=HAN.out hA;omega
  | some ad=>rw [hA] at hA';exact ⟨_,hA'.symm,HSRC.out ad hA⟩
 intro w2 hg2 hb2;rw [hcl];have hlt2:g < w2.heap.size:=Nat.lt_of_lt_of_le hgl hb2.size;have hlD:w.heap.size < w2.heap.size:=by
  rcases Nat.lt_or_ge w.heap.size w2.heap.size with h | h
  ·exact h
  ·have:=hg2.out;rw [Array.getElem?_eq_none h] at this;cases this
 have hD:Bk w2 w.heap.size 45 (splice ((List.replicate 8 0).map (Value.int .u8)) 0 ((bs.drop (8*m)).map (Value.int .u8))):=hg2.out;have hDs:=hD.set_ (n - 8*m) (.int .u8 1);rw [hll.out] at hDs;have hns:(splice ((List.replicate 8 0).map (Value.int .u8)) 0 ((bs.drop (8*m)).map (Value.int .u8))).length=8:=by unfold splice;simp [HL.out];omega
 have hcell:(w2.cell? ⟨w.heap.size,n - m*8,none⟩).isSome=true:=by rw [hD.cell,List.getElem?_eq_getElem (by rw [hns];omega)];rfl
 obtain ⟨v0,hv0⟩:=Option.isSome_iff_exists.1 hcell;have hfr:=hD.frozen (n - m*8);rw [Nat.mul_comm 8 m] at hDs;have HD:=aa hDs;have HB2:=aa hb2;have h8:((n - m*8:Nat):Int) < 8:=by omega
 have h08:(0:Int)≤((n - m*8:Nat):Int):=by omega
 obtain ⟨r,hr⟩:∃r,n - m*8=r:=⟨_,rfl⟩;rw [hr] at HD h8 h08 hv0 hfr ⊢;clear hD hDs hb2 hg2 hcell hns hA' hcl hr;have HDH:=aa (bU.heap HD.out);have HIL:=bM (kQ bs) (sr HY.out);go_wp2_with (refine wpList_load_row rfl 45 _ rfl w.heap.size rfl 45 (dgA (kQ bs)) (0,0) _ HDH.out Tryz.underlying45 rfl HIL.out ?_)
 refine (iP _ (sr HY.out) _).mono ?_;rintro e w3 ⟨rfl,hb3⟩;have hbb:Below w.heap.size w w3:=(HB2.setCell (Nat.le_refl _) _).trans (hb3.mono (by simpa using Nat.le_of_lt hlD));have HS3:=aa (HS.later hbb);have HG3:=aa (dm (bO w g) hbb);clear hb3 hbb HD HDH;go_wp2_with fail
 refine (fi _ _ _ HS3.out _).mono ?_;rintro e w4 ⟨rfl,hs4,hg4⟩;have HS4:=aa hs4;have HG4:=aa (fP HG3.out hg4);clear hs4 hg4;go_wp2_with fail
 refine (fi _ _ _ HS4.out _).mono ?_;rintro e w5 ⟨rfl,hs5,hg5⟩;have HS5:=aa hs5;have HG5:=aa (fP HG4.out hg5);clear hs5 hg5;go_wp2_with fail
 go_end0;exact ⟨rfl,by rw [zr,HL.out];exact HS5.out,HG5.out⟩
theorem mQ (w:World) (g:Nat) (s:St) (h:dR w g 222 s) (A:Option Addr) (n c:Nat) (bs:List Int) (hs:Sl w w.heap.size 1 A n (bs.map (.int .u8))) (hb:fz bs) (hc:n≤c) (hA:∀ad,A=some ad→ad.block≠g):Calls Tryz.prog 159 #[.pointer (some ⟨g,0,none⟩),.slice A n c] w fun e w'=>e=.returned (.tuple #[])∧dR w' g 222 (kA s bs)∧w.grownBy w' (some g):=by
 have HS:=aa h;have HL:=aa hs;have HY:=aa hb;have HA:=aa hA;have HN:=aa hs.length;clear h hs hb hA;go_enter Tryz.func159,Tryz.ntmps159;go_wp2_with fail
 refine (sY _ _ _ HS.out _ _ _ _ HL.out HY.out hc HA.out).mono ?_;rintro e w2 ⟨rfl,hs2,hg2⟩;have HS2:=aa hs2;have HG2:=aa hg2;clear hs2 hg2;go_wp2_with fail
 refine (xJ _ _ _ HS2.out _ _ _ _ (lr HL.out HG2.out HA.out) HY.out hc).mono ?_;rintro e w3 ⟨rfl,hs3,hg3⟩;have HS3:=aa hs3;have HG3:=aa (fP HG2.out hg3);clear hs3 hg3;go_wp2_with fail
 go_end0;exact ⟨rfl,by rw [kA,HN.out];exact HS3.out,HG3.out⟩
def ge (d:List Int) (text:List Int):List Int:=jq (kA (fh (eV 4) (eI d)) text)
theorem fN (d text:List Int):aO (ge d text):=gJ _
set_option maxRecDepth 20000 in
theorem lq (w:World) (a:List Int) (ha:aO a) (s:ByteArray) (hs:s.size≤9223372036854775807):Calls Tryz.prog 131 #[.agg (dgA a),.string s] w fun e w'=>e=.returned (.agg (dgA (ge a (cd s))))∧Below w.heap.size w w':=by
 obtain ⟨w1,hw1⟩:∃w1,(w.alloc (.cells (dgA a) 45)).alloc (.cells (dgA (List.replicate 8 0)) 45)=w1:=⟨_,rfl⟩;have ka:bU w1 w.heap.size 45 a:=hw1▸Bk.alloc (cM w _ a) _;have kz:bU w1 (w.heap.size+1) 45 (List.replicate 8 0):=hw1▸Bk.at_ _ _ _ (by simp) (dS _);have hb1:Below w.heap.size w w1:=hw1▸(ai w _).alloc (by simp) _;have hz1:w1.heap.size=w.heap.size+1+1:=by rw [←hw1];simp
 have HKA:=aa ka;have HKZ:=aa kz;have HB1:=aa hb1;have HW:=aa hw1;have HZ1:=aa hz1;have HIA:=bM _ ha;have HA:=aa ha;have hcv:=fun W=>Lib.run_convert_string_bytes (P:=Tryz.prog) W 9 166 5 s Tryz.underlying9 Tryz.underlying166 Tryz.underlying5;have HCV:=aa hcv;clear ka kz hb1 hw1 hz1 ha hcv;go_enter Tryz.func131,Tryz.ntmps131;go_upto_region 1 with fail
 rw [fj,HW.out];go_wp2_with fail
 refine (iR _ _).mono ?_;rintro e w2 ⟨rfl,hb2⟩;obtain ⟨s0,hs0⟩:∃s0,eV 4=s0:=⟨_,rfl⟩;rw [hs0];have HS0:=aa hs0;clear hs0;obtain ⟨w3,hw3⟩:∃w3,w2.alloc (.cells #[.int .u64 s0.a,.int .u64 s0.b,.int .u64 s0.c,.int .u64 s0.d] 222)=w3:=⟨_,rfl⟩;obtain ⟨g,hg⟩:∃g,w2.heap.size=g:=⟨_,rfl⟩;have hs3:dR w3 g 222 s0:=hw3▸Bk.at_ _ _ #[.int .u64 s0.a,.int .u64 s0.b,.int .u64 s0.c,.int .u64 s0.d] hg rfl;have hb3:Below w1.heap.size w1 w3:=hw3▸hb2.trans ((ai _ _).mono hb2.size);have hg1:w1.heap.size≤g:=by rw [←hg];exact hb2.size
 have HW3:=aa hw3;have HS3:=aa hs3;have HB3:=aa hb3;have HG:=aa hg;clear hb2 hw3 hs3 hb3 hg;have HC3:=aa (HKA.later HB3.out).heap;go_upto_region 2 with fail
 rw [HW3.out,HG.out];go_wp2_with (refine wpList_load_row rfl 45 _ rfl w.heap.size rfl 45 (dgA a) (0,0) _ HC3.out Tryz.underlying45 rfl HIA.out ?_)
 refine (iP a HA.out _).mono ?_;rintro e w4 ⟨rfl,hb4⟩;have HB4:=aa (HB3.trans (hb4.mono HB3.size));have HS4:=aa (HS3.later hb4);clear hb4;go_wp2_with fail
 refine (fi _ _ _ HS4.out _).mono ?_;rintro e w5 ⟨rfl,hs5,hg5⟩;have HB5:=aa (ag HB4.out hg5 HB4.size hg1);have HS5:=aa hs5;clear hs5 hg5;have hcv:=HCV.out w5;have hgl:g < w5.heap.size:=Bk.lt HS5.out;go_wp2_with fail
 have hcap:=grownCap_ge w5 s.size 0 5;obtain ⟨cp,hcp⟩:∃cp,grownCap w5 s.size 0 5=cp:=⟨_,rfl⟩;rw [hcp] at hcap ⊢;have HS6:=aa (HS5.later (kS w5 5 s));have HB6:=aa (HB5.trans ((kS w5 5 s).mono HB5.size));have HSL:=aa (uT w5 5 s hs);clear hcv hcp;refine (mQ _ _ _ HS6.out _ _ _ _ HSL.out (qH s) hcap (fun ad e=>by injection e with e;subst e;exact (Nat.ne_of_lt hgl).symm)).mono ?_;rintro e w7 ⟨rfl,hs7,hg7⟩;have HB7:=aa (ag HB6.out hg7 HB6.size hg1);have HS7:=aa hs7;clear hs7 hg7;go_wp2_with fail
 refine (iQ _ _ _ HS7.out).mono ?_;rintro e w8 ⟨rfl,hb8⟩;rw [show jq (kA (fh s0 (eI a)) (cd s))=ge a (cd s) by rw [←HS0.out];rfl];have HB8:=aa (HB7.trans (hb8.mono HB7.size));clear hb8;have HZ8:=aa (HKZ.later HB8.out).heap;have HI:=bM _ (fN a (cd s));have HO:=aa (dk (ge a (cd s)));have HS:Hid ((dgA (List.replicate 8 0)).size=(dgA (ge a (cd s))).size):=by show _=_;rw [bc,bc,(fN a (cd s)).len];rfl
 obtain ⟨C,hC⟩:∃C,dgA (ge a (cd s))=C:=⟨_,rfl⟩;have HC:=aa hC;rw [hC] at HI HO HS ⊢;clear hC;go_wp2_with (refine wpList_store_row rfl 45 _ _ rfl (w.heap.size+1) C rfl rfl 45 (dgA (List.replicate 8 0)) HZ8.out HI.out HS.out HO.out ?_)
 refine bodyPost_ret (results_cell_row (p:=4) (ty:=45) rfl _ _ (w.heap.size+1) 45 C (0,0) _ rfl (setRow_heap _ _ _ _ _ _ HZ8.out) Tryz.underlying45 rfl HI.out) rfl ?_;rw [←HC.out];exact ⟨rfl,below_setRow (HB1.trans (HB8.mono (by rw [HZ1.out];omega))) (by omega) _⟩
theorem dR.below {w w' : World} {g B:Nat} {t:TypeId} {s:St} (h:dR w g t s) (hb:Below B w w') (hg:g < B):dR w' g t s:=Bk.below h hb hg
section
variable {w wr wr' : World} {V:Value} {L:Nat} {all:List Int} {s:St}
end
def ofI (bs:List Int):List Int:=jq (kA (eV 1) bs)
theorem qL (bs:List Int):aO (ofI bs):=gJ _
theorem aq (ds:List Int) (h:aO ds):(Tryz.prog.info? 45).map (·.size)=some (dl ds).length:=by have:=(bM ds h).out;rwa [bc,←bT ds] at this
theorem bN (ds:List Int):∀v∈dl ds,v.oneCell'=true:=iq _ _
set_option maxRecDepth 20000 in
theorem xN (w:World) (A:Option Addr) (n c:Nat) (bs:List Int) (hs:Sl w w.heap.size 1 A n (bs.map (.int .u8))) (hb:fz bs) (hc:n≤c) (hA:∀ad,A=some ad→ad.block < w.heap.size):Calls Tryz.prog 90 #[.slice A n c] w fun e w'=>e=.returned (.agg (dl (ofI bs)).toArray)∧Below w.heap.size w w':=by
 obtain ⟨w1,hw1⟩:∃w1,w.alloc (.cells #[.int .u8 0,.int .u8 0,.int .u8 0,.int .u8 0,.int .u8 0,.int .u8 0,.int .u8 0,.int .u8 0] 45)=w1:=⟨_,rfl⟩;have hb1:Below w.heap.size w w1:=hw1▸ai w _;have kz:Bk w1 w.heap.size 45 ([] ++ (dl ap ++ [])):=hw1▸Bk.new' w _ _ rfl;have HW:=aa hw1;have HB1:=aa hb1;have HKZ:=aa kz;have HS:=aa (hs.later hb1);have HY:=aa hb;have HA:=aa hA;clear hw1 hb1 kz hs hb hA;go_enter Tryz.func90,Tryz.ntmps90;go_upto_region 1 with fail
 rw [HW.out];go_wp2_with fail
 refine (iR _ _).mono ?_;rintro e w2 ⟨rfl,hb2⟩;obtain ⟨s0,hs0⟩:∃s0,eV 1=s0:=⟨_,rfl⟩;rw [hs0];have HS0:=aa hs0;clear hs0;obtain ⟨w3,hw3⟩:∃w3,w2.alloc (.cells #[.int .u64 s0.a,.int .u64 s0.b,.int .u64 s0.c,.int .u64 s0.d] 222)=w3:=⟨_,rfl⟩;obtain ⟨g,hg⟩:∃g,w2.heap.size=g:=⟨_,rfl⟩;have hs3:dR w3 g 222 s0:=hw3▸Bk.at_ _ _ #[.int .u64 s0.a,.int .u64 s0.b,.int .u64 s0.c,.int .u64 s0.d] hg rfl;have hb3:Below w1.heap.size w1 w3:=hw3▸hb2.trans ((ai _ _).mono hb2.size);have hg1:w1.heap.size≤g:=by rw [←hg];exact hb2.size
 have HW3:=aa hw3;have HS3:=aa hs3;have HB3:=aa hb3;have HG:=aa hg;have HSL:=aa (HS.later hb3);have HAG:Hid (∀ad,A=some ad→ad.block≠g):=fun ad e=>by have:=HA.out ad e;have:=HB1.size;omega
 clear hb2 hw3 hs3 hb3 hg;go_upto_region 2 with fail
 rw [HW3.out,HG.out];go_wp2_with fail
 refine (mQ _ _ _ HS3.out _ _ _ _ HSL.out HY.out hc HAG.out).mono ?_;rintro e w7 ⟨rfl,hs7,hg7⟩;have HB7:=aa (ag HB3.out hg7 HB3.size hg1);have HS7:=aa hs7;clear hs7 hg7;go_wp2_with fail
 refine (iQ _ _ _ HS7.out).mono ?_;rintro e w8 ⟨rfl,hb8⟩;rw [show jq (kA s0 bs)=ofI bs by rw [←HS0.out];rfl,←zv];have HB8:=aa (HB7.trans (hb8.mono HB7.size));clear hb8;have HZ8:=aa (HKZ.later HB8.out);have HD:=aa (aq _ (qL bs));have HL:Hid ((dl ap).length=(dl (ofI bs)).length):=by show _=_;rw [bT,bT,(qL bs).len];rfl
 obtain ⟨C,hC⟩:∃C,dl (ofI bs)=C:=⟨_,rfl⟩;have HC1:Hid (∀v∈C,v.oneCell'=true):=by rw [←hC];exact bN _
 have HCC:=aa hC;rw [hC] at HD HL ⊢;clear hC;go_wp2_with (with_reducible refine ah 45 _ _ rfl ?_)
 refine ak.go ?_;refine ae rfl 45 _ _ rfl w.heap.size 0 (.agg C.toArray) C rfl rfl rfl 45 [] (dl ap) [] HZ8.out rfl HL.out HD.out HC1.out ?_;intro w9 hp9;have HK9:Hid (Bk w9 w.heap.size 45 C):=by show Bk _ _ _ _;have:=hp9.bk;simpa using this
 have HB9:=aa (ag (ab HB1.out HB8.out) hp9.only (ab HB1.out HB8.out).size (Nat.le_refl _));clear hp9;go_wp2_with fail
 refine bodyPost_ret (bH rfl _ _ w.heap.size 45 C _ rfl HK9.out Tryz.underlying45 rfl HD.out) rfl ?_;exact ⟨by rw [HCC.out],HB9.out⟩
open Go.Maps
section
variable {P:Program}
theorem cL {o:Oper} {a:Act} {w:World} {K:Act→World→Prop} {Q:Exit→Act→World→Prop} (t:TypeId) (n:Nat) (parts:Array (Nat × Operand)) (ho:o.op=.buildSlice t n parts) (vals:Array (Nat × Value)) (hv:(parts.map fun x=>(x.1,a.eval x.2))=vals) (v:Value) (w' : World) (hb:(Instr.buildSlice t n vals).run P w=.ok v w') (h:K (a.put o.dst v) w'):o.wp P a w K Q:=by subst hv;unfold Oper.wp execOp;simp only [ho,Sem.run_bind,hb,Result.andThen_ok,Sem.run_pure];exact h
theorem ll {o:Oper} {a:Act} {w:World} {K:Act→World→Prop} {Q:Exit→Act→World→Prop} (t:TypeId) (m x v:Operand) (ho:o.op=.mapUpdate t m x v) (M X V:Value) (hm:a.eval m=M) (hx:a.eval x=X) (hv:a.eval v=V) (w' : World) (hb:(Instr.mapUpdate t M X V).run P w=.ok () w') (h:K (a.put o.dst undef) w'):o.wp P a w K Q:=by unfold Oper.wp;simp [execOp,ho,hm,hx,hv,hb,Result.andThen];exact h
theorem ar {ops:Array Oper} {rest:List Oper} {o:Oper} {a:Act} {w:World} {Q:Exit→Act→World→Prop} (hw:Region.wanted o (yielded ops a.tmps)=true) (t:TypeId) (n:Nat) (parts:Array (Nat × Operand)) (ho:o.op=.buildSlice t n parts) (vals:Array (Nat × Value)) (hv:(parts.map fun x=>(x.1,a.eval x.2))=vals) (T:TypeId) (cs:List Value) (hb:∀w:World,(Instr.buildSlice t n vals).run P w=.ok (.slice (some ⟨w.heap.size,0,none⟩) n n) (w.alloc (.cells cs.toArray T))) (h:∀q w',w.heap.size=q→Bk w' q T cs→Below w.heap.size w w'→wpList P ops Q rest (a.put o.dst (.slice (some ⟨q,0,none⟩) n n)) w'):wpList P ops Q (o :: rest) a w:=
 wpList_step fun _ hK=>by rw [if_pos hw];exact cL t n parts ho vals hv _ _ (hb w) (hK _ _ (h _ _ rfl (Bk.new' w T cs.toArray (by simp)) (ai w _)))
theorem jJ {ops:Array Oper} {rest:List Oper} {op:Oper} {a:Act} {w:World} {Q:Exit→Act→World→Prop} (hw:Region.wanted op (yielded ops a.tmps)=true) (ty:TypeId) (x:Operand) (ho:op.op=.load ty x) (b o:Nat) (hx:a.eval x=.pointer (some ⟨b,o,none⟩)) (cs:List Value) (d:TypeDesc) (hc:w.rangeAt b o cs) (hu:P.underlying ty=some d) (hd:d.isRow=true) (hi:(P.info? ty).map (·.size)=some cs.length) (h:wpList P ops Q rest (a.put op.dst (.agg cs.toArray)) w):wpList P ops Q (op :: rest) a w:=
 wpList_step fun _ hK=>by rw [if_pos hw];exact wp_load_mid ty x ho b o hx cs d hc hu hd hi (hK _ _ h)
theorem im {ops:Array Oper} {rest:List Oper} {o:Oper} {a:Act} {w:World} {Q:Exit→Act→World→Prop} (hw:Region.wanted o (yielded ops a.tmps)=true) (t:TypeId) (parts:Array (Nat × Operand)) (ho:o.op=.build t parts) (vals:Array (Nat × Value)) (hv:(parts.map fun x=>(x.1,a.eval x.2))=vals) (v:Value) (hb:(Instr.build t vals).run P w=.ok v w) (h:wpList P ops Q rest (a.put o.dst v) w):wpList P ops Q (o :: rest) a w:=
 wpList_step fun _ hK=>by rw [if_pos hw];exact pf t parts ho vals hv v hb (hK _ _ h)
theorem eU {ops:Array Oper} {rest:List Oper} {o:Oper} {a:Act} {w:World} {Q:Exit→Act→World→Prop} (hw:Region.wanted o (yielded ops a.tmps)=true) (ty:TypeId) (x:Operand) (ho:o.op=.load ty x) (g:Nat) (hx:a.eval x=.pointer (some ⟨g,0,none⟩)) (cs:List Value) (t:TypeId) (hb:Bk w g t cs) (d:TypeDesc) (hu:P.underlying ty=some d) (hd:d.isRow=true) (hi:(P.info? ty).map (·.size)=some cs.length) (h:wpList P ops Q rest (a.put o.dst (.agg cs.toArray)) w):wpList P ops Q (o :: rest) a w:=
 jJ hw ty x ho g 0 hx cs d (Bk.range (pre:=[]) (post:=[]) (by simpa using hb) rfl) hu hd hi h
end
theorem a8 {P:Program} {ops:Array Oper} {rest:List Oper} {o:Oper} {a:Act} {w:World} {Q:Exit→Act→World→Prop} (t:TypeId) (n:Nat) (parts:Array (Nat × Operand)) (_ho:o.op=.buildSlice t n parts) (h:ak (wpList P ops Q (o :: rest) a w)):wpList P ops Q (o :: rest) a w:=h
theorem bA {P:Program} {ops:Array Oper} {rest:List Oper} {a:Act} {w:World} {Q:Exit→Act→World→Prop} (h:ak (wpList P ops Q rest a w)):wpList P ops Q rest a w:=h
theorem lm {w w' : World} (h:w.grownBy w' none):Below w.heap.size w w':=⟨h.os,h.tape,h.output,h.size,fun k hk=>h.block k hk (by simp)⟩
theorem kc {w:World} {b o:Nat} {cs:List Value} (h:w.rangeAt b o cs) (j:Nat) {v:Value} (hv:cs[j]?=some v):w.cell? ⟨b,o+j,none⟩=some v:=h j v hv
set_option maxRecDepth 20000 in
theorem ru (F:Es):∀(w:World) (A:Option Addr) (N C:Nat),de w w.heap.size A N F→F.size≤1048576→Calls Tryz.prog 128 #[.slice A N C] w fun e w'=>e=.returned (.int .i64 (F.size:Int))∧w=w':=by
 obtain ⟨m,hm⟩:∃m,F.size=m:=⟨_,rfl⟩;induction m using Nat.strongRecOn generalizing F with
 | ind m ih=>
  intro w A N C hF hsz;have HF:=aa hF;have HIH:=aa ih;have HM:=aa hm;have hNF:=hF.len;have HN:=aa hNF;have hN2:N≤1048576:=by have:=Es.len_size F;omega
  clear ih hm hNF hF;go_enter Tryz.func128,Tryz.ntmps128;go_wp2_with fail
  go_loop [3,4] (fun s i=>∃(k sv:Nat),k≤N∧i=.int .i64 k∧s=.int .i64 sv∧sv≤1048576∧Hid (sv+(F.drop k).size=F.size)) (fun _ i=>N - (intOf i).toNat);case atStart=>exact ⟨0,0,Nat.zero_le _,rfl,rfl,by omega,by show _=_;rw [Es.drop_zero];omega⟩
  case round=>
   obtain ⟨k,sv,hk,rfl,rfl,hs1,hs⟩:=hrel;by_cases hlt:k < N
   ·obtain ⟨b,o,op,n,nm,A',N',C',kids,rest,hA,hb,hr,e1,e2,hkd,_,_,_,_,hks⟩:=HF.spot hlt;subst hA;have c3:=kc hr 3 (v:=.slice A' N' C') rfl;have hss:=hs.out;rw [e1,Es.size] at hss;obtain ⟨q,hq⟩:∃q,kids.size=q:=⟨_,rfl⟩;rw [hq] at hss hks;have HE2:=aa e2;have HSS:=aa hss;have hcall:=HIH.out kids.size (by rw [hq];have:=HM.out;omega) kids rfl w A' N' C' hkd (by omega);rw [hq] at hcall;have HC:=aa hcall;have hsum:sv+q+1≤1048576:=by omega
    clear hkd hr e1 e2 hss hq hcall hs;go_wp2_with (go_at_call 128;refine (HC.out).mono ?_;rintro e w' ⟨rfl,rfl⟩)
    go_round;case rel=>exact ⟨k+1,sv+1+q,by omega,by go_num,by go_num,by omega,by have:=HSS.out;show _=_;rw [HE2.out];omega⟩
    case measure=>simp [intOf];omega
   ·go_wp2_with fail
    go_ret;go_light;have e1:=hs.out;rw [Es.drop_end (by have:=HN.out;omega)] at e1;exact ⟨by rw [←e1];simp [Es.size],rfl⟩
theorem de.drewN {w:World} {B N:Nat} {A:Option Addr} {F:Es} (h:de w B A N F) (n:Nat):de (w.drewN n) B A N F:=h.below (ac w B n)
theorem cE.drewN {w:World} {B N:Nat} {A:Option Addr} {F:Ss} (h:cE w B A N F) (n:Nat):cE (w.drewN n) B A N F:=h.below (ac w B n)
theorem ou {w:World} {A:Option Addr} {N C q:Nat} {F:Es} (h:de w w.heap.size A N F) (hs:F.size≤1048576) (hq:F.size=q) (n:Nat):Calls Tryz.prog 128 #[.slice A N C] (w.drewN n) fun e w'=>e=.returned (.int .i64 (q:Int))∧∃m,w'=w.drewN m:=
 Calls.quiet_of_same ((ru F (w.drewN n) A N C (h.drewN n) hs).mono (fun e w' h=>⟨by rw [h.1,hq],h.2.symm⟩))
theorem cA {x:Int} (h:0≤x∧x≤4611686018427387904):IntKind.i64.wrap x=x:=by rw [IntKind.wrap_i64];omega
set_option maxRecDepth 20000 in
theorem nu (F:Ss):∀(w:World) (A:Option Addr) (N C:Nat),cE w w.heap.size A N F→F.size≤1048576→Calls Tryz.prog 64 #[.slice A N C] w fun e w'=>e=.returned (.int .i64 (F.size:Int))∧∃q,w'=w.drewN q:=by
 obtain ⟨m,hm⟩:∃m,F.size=m:=⟨_,rfl⟩;induction m using Nat.strongRecOn generalizing F with
 | ind m ih=>
  intro w A N C hF hsz;have HF:=aa hF;have HIH:=aa ih;have HM:=aa hm;have hNF:=hF.len;have HN:=aa hNF;have hN2:N≤1048576:=by have:=Ss.len_size F;omega
  clear ih hm hNF hF;go_enter Tryz.func64,Tryz.ntmps64;go_wp2_with fail
  go_loopw [3,4] (fun s i wr=>∃(k sv:Nat),k≤N∧i=.int .i64 k∧s=.int .i64 sv∧sv≤1048576∧Hid (sv+(F.drop k).size=F.size)∧Hid (∃q,wr=w.drewN q)) (fun _ i _=>N - (intOf i).toNat)
  case atStart=>exact ⟨0,0,Nat.zero_le _,rfl,rfl,by omega,by show _=_;rw [Ss.drop_zero];omega,⟨0,rfl⟩⟩
  case round=>
   obtain ⟨k,sv,hk,rfl,rfl,hs1,hs,hw⟩:=hrel;by_cases hlt:k < N
   ·have hFr:cE wr wr.heap.size A N F:=by obtain ⟨q,rfl⟩:=hw.out;exact HF.drewN q
    obtain ⟨b,o,kd,nm,A',N',C',E,lo,hi,A1,N1,C1,L,A2,N2,C2,M,rest,hA,hb,hr,e1,e2,hst,hks⟩:=hFr.spot hlt;subst hA;have c2:=kc hr 2 (v:=.slice A' N' C') rfl;have c5:=kc hr 5 (v:=.slice A1 N1 C1) rfl;have c6:=kc hr 6 (v:=.slice A2 N2 C2) rfl;have hss:=hs.out;rw [e1,Ss.size] at hss;obtain ⟨q0,hq0⟩:∃q,E.size=q:=⟨_,rfl⟩;obtain ⟨q1,hq1⟩:∃q,L.size=q:=⟨_,rfl⟩;obtain ⟨q2,hq2⟩:∃q,M.size=q:=⟨_,rfl⟩;have HC0:=aa (fun n=>ou (C:=C') hst.e (by omega) hq0 n);have HC1:Hid (∀n,Calls Tryz.prog 64 #[.slice A1 N1 C1] (wr.drewN n) fun e w'=>e=.returned (.int .i64 (q1:Int))∧∃m,w'=wr.drewN m):=fun n=>Calls.quiet_of ((HIH.out L.size (by have:=HM.out;omega) L rfl (wr.drewN n) A1 N1 C1 (hst.l.drewN n) (by omega)).mono (fun e w' h=>⟨by rw [h.1,hq1],h.2⟩));have HC2:Hid (∀n,Calls Tryz.prog 64 #[.slice A2 N2 C2] (wr.drewN n) fun e w'=>e=.returned (.int .i64 (q2:Int))∧∃m,w'=wr.drewN m):=fun n=>Calls.quiet_of ((HIH.out M.size (by have:=HM.out;omega) M rfl (wr.drewN n) A2 N2 C2 (hst.m.drewN n) (by omega)).mono (fun e w' h=>⟨by rw [h.1,hq2],h.2⟩));rw [hq0,hq1,hq2] at hss;have HE2:=aa e2;have HSS:=aa hss;have hsum:sv+(q0+q1+q2)+1≤1048576:=by omega
    have w1:IntKind.i64.wrap ((sv:Int)+1)=(sv:Int)+1:=cA (by omega);have w2:IntKind.i64.wrap ((sv:Int)+1+q0)=(sv:Int)+1+q0:=cA (by omega);have w3:IntKind.i64.wrap ((sv:Int)+1+q0+q1)=(sv:Int)+1+q0+q1:=cA (by omega);have w4:IntKind.i64.wrap ((sv:Int)+1+q0+q1+q2)=(sv:Int)+1+q0+q1+q2:=cA (by omega);clear hst hr e1 e2 hss hq0 hq1 hq2 hs hFr hks;go_wp2_with fail
    go_quiet (first | (go_at_call 128;exact HC0.out _) | (go_at_call_of 64 A1;exact HC1.out _) | (go_at_call_of 64 A2;exact HC2.out _));go_wp2_with fail
    go_roundw
    case rel=>exact ⟨k+1,sv+1+q0+q1+q2,by omega,by go_num,by go_num,by omega,by have:=HSS.out;show _=_;rw [HE2.out];omega,by obtain ⟨q,rfl⟩:=hw.out;exact ⟨_,World.drewN_drewN _ _ _⟩⟩
    case measure=>simp [intOf];omega
   ·go_wp2_with fail
    go_ret;go_light;have e1:=hs.out;rw [Ss.drop_end (by have:=HN.out;omega)] at e1;exact ⟨by rw [←e1];simp [Ss.size],hw.out⟩
end Go.Proofs.YtllbdpdnpaocnaaGreatDoor
