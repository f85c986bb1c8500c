/- Part of the proof of WholeStep. -/
import Derived.Deep.WholeRow
import Derived.Deep.MidRow
import Derived.Test.YtllbdpdnpaocnaaGreatDoorRows
import Derived.Test.YtllbdpdnpaocnaaGreatDoorZAA
import Derived.BigGuardPart
import Derived.Deep.Light
import Derived.Deep.QuietTactic
import Derived.BigQuiet
import Derived.BigRegion
import Derived.Deep.RegionLaw
import Derived.StillTailTactics
import Derived.Laws.CopyOwn
namespace Go.Proofs.YtllbdpdnpaocnaaGreatDoor
set_option linter.unusedSimpArgs false
set_option linter.unusedVariables false
set_option linter.constructorNameAsVariable false
open Go.RowKit
def bL (n:Int):Bool:=decide (0≤n) && decide (n≤1125899906842624)
theorem gP {n:Int} (h:bL n=true):0≤n∧n≤1125899906842624:=by simpa [bL] using h
theorem pz (n:Int) (w:World):Calls Tryz.prog 196 #[.int .i64 n] w fun e w'=>e=.returned (.bool (bL n))∧w=w':=by
 go_enter Tryz.func196,Tryz.ntmps196;go_wp2;all_goals
  go_ret;exact ⟨by simp [bL, *] <;> omega,rfl⟩
def lF (a b:Int):Int:=if bL a && bL b && bL (a+b) then a+b else 0
def jx (a b:Int):Int:=if bL a && bL b && bL (a+b) then 0 else 2
theorem tg (a b:Int) (w:World):Calls Tryz.prog 129 #[.int .i64 a,.int .i64 b] w fun e w'=>e=.returned (.tuple #[.int .i64 (lF a b),.int .i64 (jx a b)])∧w=w':=by
 have hab:bL a=true→bL b=true→wrap64 (a+b)=a+b:=fun h h'=>by have:=gP h;have:=gP h';exact IntWalk.wrap64_in _ (by omega)
 go_enter Tryz.func129,Tryz.ntmps129;go_wp2_with (go_at_call 196;refine (pz _ _).mono ?_;rintro e w' ⟨rfl,rfl⟩)
 all_goals
  go_ret2;go_light;exact ⟨by simp_all [lF,jx],rfl⟩
def cu:Int→List Int→Int × Int
 | s,[]=>(s,0)
 | s,x :: l=>if jx s x=0 then cu (lF s x) l else (0,jx s x)
theorem iT (A:Option Addr) (n c:Nat) (zs:List Int) (w:World) (h:Sl w w.heap.size 1 A n (zs.map (.int .i64))):Calls Tryz.prog 66 #[.slice A n c] w fun e w'=>e=.returned (.tuple #[.int .i64 (cu 0 zs).1,.int .i64 (cu 0 zs).2])∧w=w':=by
 have hn:=h.le;have hl:=h.length;have H:=aa h;clear h;have HL:=aa hl;clear hl;go_enter Tryz.func66,Tryz.ntmps66;go_wp2_with fail
 go_loop [4,11] (fun s i=>∃(k:Nat) (sv:Int),k≤n∧i=.int .i64 k∧s=.int .i64 sv∧Hid (cu sv (zs.drop k)=cu 0 zs)) (fun _ i=>n - (intOf i).toNat);case atStart=>exact ⟨0,0,Nat.zero_le _,rfl,rfl,rfl⟩
 case round=>
  obtain ⟨k,sv,hk,rfl,rfl,hs⟩:=hrel;by_cases hlt:k < n
  ·obtain ⟨ad,z,rfl,hb,hz,hc⟩:=H.at_ hlt;have HZ:=aa hz;clear hz;go_wp2_with (go_at_call 129;refine (tg _ _ _).mono ?_;rintro e w' ⟨rfl,rfl⟩)
   ·go_ret2;go_light;have e1:=hs.out;rw [dJ HZ.out] at e1;exact ⟨by rw [←e1];clear e1 hs;simp_all [cu],rfl⟩
   ·go_round;case rel=>
     have e1:=hs.out;rw [dJ HZ.out] at e1;exact ⟨k+1,_,by omega,by go_num,rfl,by show _=_;rw [←e1];clear e1 hs;simp_all [cu]⟩
    case measure=>simp [intOf];omega
  ·go_wp2_with fail
   go_ret2;go_light;have e1:=hs.out;rw [List.drop_eq_nil_of_le (by have:=HL.out;omega)] at e1;exact ⟨by rw [←e1];simp [cu],rfl⟩
theorem Tryz.infoBool:(Tryz.prog.info? 4).map (fun i=>(i.zero,i.size,i.bytes))=some (some (.bool false),1,1):=by kernel_rfl
def pA (xs ys:List Bool):Bool:=decide (xs=ys)
theorem ie:∀(xs ys:List Bool),xs.length=ys.length→((List.range xs.length).all fun i=>xs.getD i false == ys.getD i false)=pA xs ys
 | [],[],_=>rfl
 | x :: xs,y :: ys,h=>by have ih:=ie xs ys (by simpa using h);rw [List.length_cons,List.range_succ_eq_map,List.all_cons,List.all_map];simp only [List.getD_cons_zero,Function.comp_def,List.getD_cons_succ,ih];by_cases hx:x=y <;> simp [pA,hx]
 | [],_ :: _,h=>by simp at h
 | _ :: _,[],h=>by simp at h
theorem ji {P:Program} (d:Nat) (t e:TypeId) (n:Nat) (ht:P.underlying t=some (.array n e)) (he:P.underlying e=some .bool) {i:TypeInfo} (hi:P.info? e=some i) (hsz:i.size=1) (xs ys:List Bool) (hx:xs.length=n) (hy:ys.length=n) (w:World):(Op.equalIn (d+2) t (.agg (xs.map Value.bool).toArray) (.agg (ys.map Value.bool).toArray)).run P w=.ok (pA xs ys) w:=by
 rw [←ie xs ys (hx.trans hy.symm),hx,List.range_eq_range',Op.equalIn];have hs:∀w,(sizeOf e).run P w=.ok 1 w:=fun w=>by simp [sizeOf,typeInfo,hi,hsz]
 simp only [Sem.run_bind,run_underlying ht,Result.andThen_ok,hs,Std.Legacy.Range.forIn_eq_forIn_range',Std.Legacy.Range.size,Nat.sub_zero,Nat.add_sub_cancel,Nat.div_one];have hl:∀i∈List.range' 0 n 1,i < n:=fun i hi=>by simpa using (List.mem_range'_1.1 hi).2
 generalize List.range' 0 n 1=l at hl ⊢;induction l with
 | nil=>simp
 | cons j l ih=>
  have hj:j < n:=hl j (by simp);have px:(part e (xs.map Value.bool).toArray (j*1)).run P w=.ok (.bool (xs.getD j false)) w:=by simp [part,isAgg,run_underlying he,List.getD,List.getElem?_eq_getElem (show j < xs.length by omega)]
  have py:(part e (ys.map Value.bool).toArray (j*1)).run P w=.ok (.bool (ys.getD j false)) w:=by simp [part,isAgg,run_underlying he,List.getD,List.getElem?_eq_getElem (show j < ys.length by omega)]
  have pe:(Op.equalIn (d+1) e (.bool (xs.getD j false)) (.bool (ys.getD j false))).run P w=.ok (xs.getD j false == ys.getD j false) w:=run_equalIn_bool w d e _ _ he;simp only [List.forIn_cons,Sem.run_bind,px,py,pe,Result.andThen_ok,List.all_cons];cases hb:(xs.getD j false == ys.getD j false)
  ·simp
  ·simp only [Bool.not_true,Bool.false_eq_true,if_false,Sem.run_pure,Result.andThen_ok,Bool.true_and];exact ih fun i hi=>hl i (by simp [hi])
def iw (l:List Int):List Int:=l ++ List.replicate (8 - l.length) 0
def dc (d:List Bool):List Bool:=d ++ List.replicate (8 - d.length) false
def cD (l:List Int) (d:List Bool) (b:Int):List Value:=.int .i64 (l.length:Nat) :: ((iw l).map (.int .i64) ++ ((dc d).map .bool ++ [.int .i64 b]))
structure pB (l:List Int) (d:List Bool) (b:Int):Prop where
 n2:2≤l.length
 n8:l.length≤8
 dl:d.length=l.length
 pos:∀x∈l,0 < x∧x≤1125899906842624
 sum:l.foldr (· + ·) 0≤1125899906842624
 b0:0≤b
 b1:b≤1099511627776
structure aC (w:World) (g:Nat) (l:List Int) (d:List Bool) (b:Int):Prop where
 bk:Bk w g 140 (cD l d b)
 ok:pB l d b
theorem eL {l:List Int} (h:l.length≤8):(iw l).length=8:=by simp [iw];omega
theorem eM {d:List Bool} (h:d.length≤8):(dc d).length=8:=by simp [dc];omega
theorem nV {l:List Int} {i:Nat} {x:Int} (h:l[i]?=some x):(iw l)[i]?=some x:=by obtain ⟨hl,rfl⟩:=List.getElem?_eq_some_iff.1 h;rw [iw,List.getElem?_append_left hl];exact h
theorem nW {l:List Bool} {i:Nat} {x:Bool} (h:l[i]?=some x):(dc l)[i]?=some x:=by obtain ⟨hl,rfl⟩:=List.getElem?_eq_some_iff.1 h;rw [dc,List.getElem?_append_left hl];exact h
theorem nX {d:List Bool} {i:Nat} (h:i < d.length) (u:Bool):dc (d.set i u)=(dc d).set i u:=by simp [dc,List.set_append,h]
section
variable {w w' : World} {g:Nat} {l:List Int} {d:List Bool} {b:Int}
theorem lG (h:l.length≤8) {i:Nat} {x:Int} (hx:l[i]?=some x):(cD l d b)[1+i]?=some (.int .i64 x):=by
 have h1:=nV hx;have h2:=eL h;have h3:i < 8:=by have:=(List.getElem?_eq_some_iff.1 hx).1;omega
 rw [Nat.add_comm,cD,List.getElem?_cons_succ,List.getElem?_append_left (by simp [h2];omega)];simp [h1]
theorem lH (h:l.length≤8) (hd:d.length=l.length) {i:Nat} {x:Bool} (hx:d[i]?=some x):(cD l d b)[9+i]?=some (.bool x):=by
 have h1:=nW hx;have h2:=eL h;have h4:=eM (d:=d) (by omega);have h3:i < 8:=by have:=(List.getElem?_eq_some_iff.1 hx).1;omega
 have e:9+i=(8+i)+1:=by omega
 rw [e,cD,List.getElem?_cons_succ,List.getElem?_append_right (by simp [h2]),List.getElem?_append_left (by simp [h2,h4];omega)];simp [h1,h2]
theorem lI (h:l.length≤8) (hd:d.length=l.length):(cD l d b)[17]?=some (.int .i64 b):=by have h2:=eL h;have h4:=eM (d:=d) (by omega);rw [cD,List.getElem?_cons_succ,List.getElem?_append_right (by simp [h2]),List.getElem?_append_right (by simp [h2,h4])];simp [h2,h4]
theorem aC.c0 (h:aC w g l d b):w.cell? ⟨g,0,none⟩=some (.int .i64 (l.length:Nat)):=by rw [h.bk.cell];rfl
theorem aC.cs (h:aC w g l d b) {i:Nat} {x:Int} (hx:l[i]?=some x):w.cell? ⟨g,1+i,none⟩=some (.int .i64 x):=by rw [h.bk.cell];exact lG h.ok.n8 hx
theorem aC.cl (h:aC w g l d b) {i:Nat} {x:Bool} (hx:d[i]?=some x):w.cell? ⟨g,9+i,none⟩=some (.bool x):=by rw [h.bk.cell];exact lH h.ok.n8 h.ok.dl hx
theorem aC.cb (h:aC w g l d b):w.cell? ⟨g,17,none⟩=some (.int .i64 b):=by rw [h.bk.cell];exact lI h.ok.n8 h.ok.dl
theorem aC.fr (h:aC w g l d b) (i:Nat):w.frozen? ⟨g,i,none⟩=false:=h.bk.frozen i
theorem aC.lt (h:aC w g l d b):g < w.heap.size:=h.bk.lt
theorem aC.later (h:aC w g l d b) (hb:Below w.heap.size w w'):aC w' g l d b:=⟨h.bk.later hb,h.ok⟩
theorem aC.grown (h:aC w g l d b) {row:Option Nat} (hb:w.grownBy w' row) (hg:some g≠row):aC w' g l d b:=⟨h.bk.grown hb hg,h.ok⟩
theorem aC.drewN (h:aC w g l d b) (n:Nat):aC (w.drewN n) g l d b:=⟨h.bk.drewN n,h.ok⟩
theorem aC.put (h:aC w g l d b) {i:Nat} (hi:i < l.length) (u:Bool):aC (w.setCell ⟨g,9+i,none⟩ (.bool u)) g l (d.set i u) b:=by
 refine ⟨?_,h.ok.n2,h.ok.n8,by simpa using h.ok.dl,h.ok.pos,h.ok.sum,h.ok.b0,h.ok.b1⟩;have h1:=h.bk.set_ (9+i) (.bool u);have h2:=eL h.ok.n8;have h4:=eM (d:=d) (by have:=h.ok.dl;have:=h.ok.n8;omega);have h5:i < d.length:=by have:=h.ok.dl;omega
 have e:9+i=(8+i)+1:=by omega
 have h6:=h.ok.n8;have h7:(8+i) - 8=i:=by omega
 have h8:¬(8+i < 8):=by omega
 have h9:i < 8:=by omega
 rw [e] at h1;rw [cD,List.set_cons_succ,List.set_append,List.length_map,h2,if_neg h8,h7,List.set_append,List.length_map,h4,if_pos h9,←List.map_set,←nX h5] at h1;rw [e];exact h1
end
theorem th {n:Nat} {x:Int} (h0:0≤x) (h:x < n):∃i:Nat,x=i∧i < n:=⟨x.toNat,by omega,by omega⟩
def ei (l:List Int) (seat:Int):Bool:=decide (0≤seat) && decide (seat < (l.length:Nat))
theorem dL (w:World) (g:Nat) (l:List Int) (d:List Bool) (b:Int) (h:aC w g l d b) (seat:Int):Calls Tryz.prog 67 #[.pointer (some ⟨g,0,none⟩),.int .i64 seat] w fun e w'=>e=.returned (.bool (ei l seat))∧w=w':=by
 have h0:=h.c0;go_enter Tryz.func67,Tryz.ntmps67;go_wp2_with fail
 all_goals
  go_ret;go_light;exact ⟨by simp_all [ei] <;> omega,rfl⟩
def fV (l:List Int) (d:List Bool) (b seat amt now:Int):Int:=
 if ei l seat=false then 28 else if b < now then 19 else if d.getD seat.toNat false=true then 7 else if amt≠l.getD seat.toNat 0 then 22 else 0
def jy (l:List Int) (d:List Bool) (b seat amt now:Int):List Bool:=if fV l d b seat amt now=0 then d.set seat.toNat true else d
theorem qP {l:List Int} {i:Nat} (h:i < l.length):ei l i=true:=by simp [ei];omega
theorem lJ {l:List Int} {s:Int} (h:ei l s=true):∃i:Nat,s=i∧i < l.length:=by simp [ei] at h;exact th h.1 h.2
theorem et (w:World) (g:Nat):w.grownBy w (some g):=World.grownBy.refl _ _
theorem ti (w:World) (g:Nat) (l:List Int) (d:List Bool) (b:Int) (h:aC w g l d b) (seat amt now:Int):Calls Tryz.prog 22 #[.pointer (some ⟨g,0,none⟩),.int .i64 seat,.int .i64 amt,.int .i64 now] w fun e w'=>e=.returned (.int .i64 (fV l d b seat amt now))∧aC w' g l (jy l d b seat amt now) b∧w.grownBy w' (some g):=by
 have hb:=h.cb;have H:=aa h;clear h;by_cases hs:ei l seat=true
 ·obtain ⟨i,rfl,hi⟩:=lJ hs;have hl:=H.cs (List.getElem?_eq_getElem hi);have hi' : i < d.length:=by have:=H.ok.dl;omega
  have hd:=H.cl (List.getElem?_eq_getElem hi');have fr:=H.fr (9+i);have n8:=H.ok.n8;have hpost:∀c:Int,c≠0→fV l d b i amt now=c→Ending.returned (.int .i64 c)=.returned (.int .i64 (fV l d b i amt now))∧aC w g l (jy l d b i amt now) b∧w.grownBy w (some g):=by rintro c hc rfl;exact ⟨rfl,by rw [jy,if_neg hc];exact H.out,et _ _⟩
  have HP:=aa hpost;clear hpost;have hok:fV l d b i amt now=0→Ending.returned (.int .i64 0)=.returned (.int .i64 (fV l d b i amt now))∧aC (w.setCell ⟨g,9+i,none⟩ (.bool true)) g l (jy l d b i amt now) b∧w.grownBy (w.setCell ⟨g,9+i,none⟩ (.bool true)) (some g):=by intro hc;exact ⟨by rw [hc],by rw [jy,if_pos hc];exact H.put hi true,bg (et _ _) _ _⟩
  have HO:=aa hok;clear hok;have hE:fV l d b i amt now=if b < now then 19 else if d[i]=true then 7 else if amt≠l[i] then 22 else 0:=by simp [fV,hs,hi,hi']
  have HE:=aa hE;clear hE;cases hdi:d[i]
  ·rw [hdi] at hd;go_enter Tryz.func22,Tryz.ntmps22;go_wp2_with (go_at_call 67;refine (dL _ _ _ _ _ H.out _).mono ?_;rintro e w' ⟨rfl,rfl⟩;rw [hs])
   all_goals go_ret
   all_goals go_light
   ·exact HP.out 19 (by decide) (by rw [HE.out];simp_all)
   ·exact HP.out 22 (by decide) (by rw [HE.out];simp_all)
   ·exact HO.out (by rw [HE.out];simp_all)
  ·rw [hdi] at hd;go_enter Tryz.func22,Tryz.ntmps22;go_wp2_with (go_at_call 67;refine (dL _ _ _ _ _ H.out _).mono ?_;rintro e w' ⟨rfl,rfl⟩;rw [hs])
   all_goals go_ret
   all_goals go_light
   ·exact HP.out 19 (by decide) (by rw [HE.out];simp_all)
   ·exact HP.out 7 (by decide) (by rw [HE.out];simp_all)
 ·have hs' : ei l seat=false:=by simpa using hs
  have HE:fV l d b seat amt now=28:=by simp [fV,hs']
  clear hs;go_enter Tryz.func22,Tryz.ntmps22;go_wp2_with (go_at_call 67;refine (dL _ _ _ _ _ H.out _).mono ?_;rintro e w' ⟨rfl,rfl⟩;rw [hs'])
  go_ret;go_light;exact ⟨by rw [HE];rfl,by rw [jy,if_neg (by rw [HE];decide)];exact H.out,et _ _⟩
theorem qQ (d:List Bool) (n:Nat) (hd:d.length=n):pA (dc d) (List.replicate n true ++ List.replicate (8 - n) false)=d.all id:=by subst hd;unfold pA dc;rw [Bool.eq_iff_iff];simp only [decide_eq_true_eq,List.append_cancel_right_eq,List.eq_replicate_iff,true_and,List.all_eq_true,id]
theorem sB {α:Type} (l:List α) (h:l.length=8):∃a0 a1 a2 a3 a4 a5 a6 a7,l=[a0,a1,a2,a3,a4,a5,a6,a7]:=by
 match l,h with
 | [a0,a1,a2,a3,a4,a5,a6,a7],_=>exact ⟨_,_,_,_,_,_,_,_,rfl⟩
theorem kZ {l:List Int} {d:List Bool} {b:Int} (h:l.length≤8) (hd:d.length=l.length) {i:Nat} {x:Bool} (hx:(dc d)[i]?=some x):(cD l d b)[9+i]?=some (.bool x):=by
 have h2:=eL h;have h4:=eM (d:=d) (by omega);have h3:i < 8:=by have:=(List.getElem?_eq_some_iff.1 hx).1;omega
 have e:9+i=(8+i)+1:=by omega
 rw [e,cD,List.getElem?_cons_succ,List.getElem?_append_right (by simp [h2]),List.getElem?_append_left (by simp [h2,h4];omega)];simp [hx,h2]
theorem aC.cl8 {w:World} {g:Nat} {l:List Int} {d:List Bool} {b:Int} (h:aC w g l d b) {i:Nat} {x:Bool} (hx:(dc d)[i]?=some x):w.cell? ⟨g,9+i,none⟩=some (.bool x):=by rw [h.bk.cell];exact kZ h.ok.n8 h.ok.dl hx
set_option maxHeartbeats 400000 in
theorem jz (w:World) (g:Nat) (l:List Int) (d:List Bool) (b:Int) (h:aC w g l d b):Calls Tryz.prog 68 #[.pointer (some ⟨g,0,none⟩)] w fun e w'=>e=.returned (.bool (d.all id))∧Below w.heap.size w w':=by
 have h0:=h.c0;have hgl:=h.lt;have n8:=h.ok.n8;have n2:=h.ok.n2;have hdl:=h.ok.dl;obtain ⟨n,hn⟩:∃n,n=l.length:=⟨_,rfl⟩;rw [←hn] at h0 n8 n2 hdl;have H:=aa h;clear h;have HN:=aa hn;clear hn;have HDL:=aa hdl;clear hdl;have hbk0:=aa (Bk.new' w 138 #[.bool false,.bool false,.bool false,.bool false,.bool false,.bool false,.bool false,.bool false] (xs:=(List.replicate 0 true ++ List.replicate (8 - 0) false).map .bool) (by simp));have hbl0:=aa (ai w (.cells #[.bool false,.bool false,.bool false,.bool false,.bool false,.bool false,.bool false,.bool false] 138));go_enter Tryz.func68,Tryz.ntmps68;go_wp2_with fail
 go_loopw [9] (fun i wr=>∃k:Nat,k≤n∧i=.int .i64 k∧Hid (Bk wr w.heap.size 138 ((List.replicate k true ++ List.replicate (8 - k) false).map .bool))∧Below w.heap.size w wr) (fun i _=>n - (intOf i).toNat)
 case atStart=>exact ⟨0,Nat.zero_le _,rfl,hbk0,hbl0.out⟩
 case round=>
  obtain ⟨k,hk,rfl,hbk,hbl⟩:=hrel;by_cases hlt:k < n
  ·have hst:wr.cell? ⟨w.heap.size,k,none⟩=some (.bool false):=by
    rw [hbk.out.cell,List.getElem?_map,List.getElem?_append_right (by simp)];simp [List.getElem?_replicate];omega
   have hfr:wr.frozen? ⟨w.heap.size,k,none⟩=false:=hbk.out.frozen k;go_wp2_with fail
   go_roundw
   case rel=>
    refine ⟨k+1,by omega,by go_num,?_,hbl.setCell (Nat.le_refl _) _⟩;have e1:=hbk.out.set_ k (.bool true);rw [←List.map_set] at e1;have e2:(List.replicate k true ++ List.replicate (8 - k) false).set k true=List.replicate (k+1) true ++ List.replicate (8 - (k+1)) false:=by
     have e3:8 - k=(8 - (k+1))+1:=by omega
     rw [List.set_append,if_neg (by simp),List.length_replicate,Nat.sub_self,e3,List.replicate_succ,List.set_cons_zero,List.replicate_succ',List.append_assoc];rfl
    rw [e2] at e1;exact e1
   case measure=>simp [intOf];omega
  ·obtain rfl:k=n:=by omega
   have e1:=qQ d k HDL.out;have hf:=(H.later hbl);have hb8:=hbk.out;obtain ⟨a0,a1,a2,a3,a4,a5,a6,a7,ha⟩:=sB (dc d) (eM (by have:=HDL.out;omega));obtain ⟨b0,b1,b2,b3,b4,b5,b6,b7,hb⟩:=sB (List.replicate k true ++ List.replicate (8 - k) false) (by simp;omega);rw [ha,hb] at e1;rw [hb] at hb8;have c0:=hf.cl8 (i:=0) (x:=a0) (by rw [ha];rfl);have c1:=hf.cl8 (i:=1) (x:=a1) (by rw [ha];rfl);have c2:=hf.cl8 (i:=2) (x:=a2) (by rw [ha];rfl);have c3:=hf.cl8 (i:=3) (x:=a3) (by rw [ha];rfl);have c4:=hf.cl8 (i:=4) (x:=a4) (by rw [ha];rfl);have c5:=hf.cl8 (i:=5) (x:=a5) (by rw [ha];rfl);have c6:=hf.cl8 (i:=6) (x:=a6) (by rw [ha];rfl);have c7:=hf.cl8 (i:=7) (x:=a7) (by rw [ha];rfl);have d0:=hb8.cell 0;have d1:=hb8.cell 1;have d2:=hb8.cell 2;have d3:=hb8.cell 3;have d4:=hb8.cell 4;have d5:=hb8.cell 5;have d6:=hb8.cell 6;have d7:=hb8.cell 7;simp at c0 c1 c2 c3 c4 c5 c6 c7 d0 d1 d2 d3 d4 d5 d6 d7;obtain ⟨i0,hi,hz0,hz1,hz2⟩:=info_parts Tryz.infoBool;have heq:=ji (P:=Tryz.prog) 9998 138 4 8 Tryz.underlying138 Tryz.underlying4 hi hz1 [a0,a1,a2,a3,a4,a5,a6,a7] [b0,b1,b2,b3,b4,b5,b6,b7] rfl rfl;rw [e1] at heq;simp only [List.map_cons,List.map_nil] at heq;obtain ⟨bb,hbb⟩:∃bb,d.all id=bb:=⟨_,rfl⟩;rw [hbb] at heq;have HBB:=aa hbb;clear hbb;clear e1 ha hb hb8 hf hbk hbk0 hbl0;go_wp2_with fail
   go_quiet (fail);go_wp2_with fail
   go_ret;exact ⟨by rw [HBB.out];rfl,by simpa using hbl.trans (ac _ _ _)⟩
def ee (l:List Int) (d:List Bool) (seat:Int):Int:=
 if ei l seat=false then 28 else if d.getD seat.toNat false=false then 9 else if d.all id then 10 else 0
def gQ (l:List Int) (d:List Bool) (seat:Int):Int:=if ee l d seat=0 then l.getD seat.toNat 0 else 0
def gR (l:List Int) (d:List Bool) (seat:Int):List Bool:=if ee l d seat=0 then d.set seat.toNat false else d
set_option maxHeartbeats 400000 in
theorem qR (w:World) (g:Nat) (l:List Int) (d:List Bool) (b:Int) (h:aC w g l d b) (seat now:Int):Calls Tryz.prog 23 #[.pointer (some ⟨g,0,none⟩),.int .i64 seat,.int .i64 now] w fun e w'=>e=.returned (.tuple #[.int .i64 (gQ l d seat),.int .i64 (ee l d seat)])∧aC w' g l (gR l d seat) b∧w.grownBy w' (some g):=by
 have H:=aa h;clear h;by_cases hs:ei l seat=true
 ·obtain ⟨i,rfl,hi⟩:=lJ hs;have hl:=H.cs (List.getElem?_eq_getElem hi);have hi' : i < d.length:=by have:=H.ok.dl;omega
  have hd:=H.cl (List.getElem?_eq_getElem hi');have fr:=H.fr (9+i);have n8:=H.ok.n8;have hE:ee l d i=if d[i]=false then 9 else if d.all id then 10 else 0:=by simp [ee,hs,hi']
  have hpost:∀c:Int,c≠0→ee l d i=c→∀w',Below w.heap.size w w'→Ending.returned (.tuple #[.int .i64 0,.int .i64 c])=.returned (.tuple #[.int .i64 (gQ l d i),.int .i64 (ee l d i)])∧aC w' g l (gR l d i) b∧w.grownBy w' (some g):=by rintro c hc rfl w' hb;exact ⟨by rw [gQ,if_neg hc],by rw [gR,if_neg hc];exact H.later hb,dm (et _ _) hb⟩
  have HP:=aa hpost;clear hpost;have hok:ee l d i=0→∀w',Below w.heap.size w w'→Ending.returned (.tuple #[.int .i64 l[i],.int .i64 0])=.returned (.tuple #[.int .i64 (gQ l d i),.int .i64 (ee l d i)])∧aC (w'.setCell ⟨g,9+i,none⟩ (.bool false)) g l (gR l d i) b∧w.grownBy (w'.setCell ⟨g,9+i,none⟩ (.bool false)) (some g):=by intro hc w' hb;exact ⟨by rw [gQ,if_pos hc,hc];simp [hi],by rw [gR,if_pos hc];exact (H.later hb).put hi false,bg (dm (et _ _) hb) _ _⟩
  have HO:=aa hok;clear hok;have HE:=aa hE;clear hE;cases hdi:d[i]
  ·rw [hdi] at hd;go_enter Tryz.func23,Tryz.ntmps23;go_wp2_with (go_at_call 67;refine (dL _ _ _ _ _ H.out _).mono ?_;rintro e w' ⟨rfl,rfl⟩;rw [hs])
   go_ret2;go_light;exact HP.out 9 (by decide) (by rw [HE.out];simp_all) _ (Below.refl _ _)
  ·rw [hdi] at hd;cases hall:d.all id
   ·go_enter Tryz.func23,Tryz.ntmps23;go_wp2_with (first | (go_at_call 67;refine (dL _ _ _ _ _ H.out _).mono ?_;rintro e w' ⟨rfl,rfl⟩;rw [hs]) | (go_at_call 68;refine (jz _ _ _ _ _ H.out).mono ?_;rintro e w' ⟨rfl,hbl⟩;rw [hall];have hc1:=(H.later hbl).cs (List.getElem?_eq_getElem hi);have hc2:=(H.later hbl).cl (List.getElem?_eq_getElem hi');have hc3:=(H.later hbl).fr (9+i)))
    go_ret2;go_light;exact HO.out (by rw [HE.out];simp_all) _ hbl
   ·go_enter Tryz.func23,Tryz.ntmps23;go_wp2_with (first | (go_at_call 67;refine (dL _ _ _ _ _ H.out _).mono ?_;rintro e w' ⟨rfl,rfl⟩;rw [hs]) | (go_at_call 68;refine (jz _ _ _ _ _ H.out).mono ?_;rintro e w' ⟨rfl,hbl⟩;rw [hall]))
    go_ret2;go_light;exact HP.out 10 (by decide) (by rw [HE.out];simp_all) _ hbl
 ·have hs' : ei l seat=false:=by simpa using hs
  have HE:ee l d seat=28:=by simp [ee,hs']
  clear hs;go_enter Tryz.func23,Tryz.ntmps23;go_wp2_with (go_at_call 67;refine (dL _ _ _ _ _ H.out _).mono ?_;rintro e w' ⟨rfl,rfl⟩;rw [hs'])
  go_ret2;go_light;exact ⟨by rw [gQ,HE];rfl,by rw [gR,if_neg (by rw [HE];decide)];exact H.out,et _ _⟩
def lK (d:List Bool) (b now:Int):Int:=if d.all id then 1 else if b < now then 2 else 0
theorem pC (w:World) (g:Nat) (l:List Int) (d:List Bool) (b:Int) (h:aC w g l d b) (now:Int):Calls Tryz.prog 24 #[.pointer (some ⟨g,0,none⟩),.int .i64 now] w fun e w'=>e=.returned (.int .i64 (lK d b now))∧Below w.heap.size w w':=by
 have hgl:=h.lt;have H:=aa h;clear h;go_enter Tryz.func24,Tryz.ntmps24;go_wp2_with (go_at_call 68;refine (jz _ _ _ _ _ H.out).mono ?_;rintro e w' ⟨rfl,hbl⟩;have hc1:=(H.later hbl).cb)
 all_goals go_ret
 all_goals go_light
 all_goals exact ⟨by simp_all [lK],hbl⟩
def fW (l:List Int) (d:List Bool) (seat:Int):Int:=if ei l seat && d.getD seat.toNat false then l.getD seat.toNat 0 else 0
theorem pD (w:World) (g:Nat) (l:List Int) (d:List Bool) (b:Int) (h:aC w g l d b) (seat:Int):Calls Tryz.prog 69 #[.pointer (some ⟨g,0,none⟩),.int .i64 seat] w fun e w'=>e=.returned (.int .i64 (fW l d seat))∧w=w':=by
 have H:=aa h;clear h;by_cases hs:ei l seat=true
 ·obtain ⟨i,rfl,hi⟩:=lJ hs;have hl:=H.cs (List.getElem?_eq_getElem hi);have hi' : i < d.length:=by have:=H.ok.dl;omega
  have hd:=H.cl (List.getElem?_eq_getElem hi');have n8:=H.ok.n8;have hE:fW l d i=if d[i] then l[i] else 0:=by simp [fW,hs,hi',hi]
  have HE:=aa hE;clear hE;cases hdi:d[i];all_goals
   rw [hdi] at hd;go_enter Tryz.func69,Tryz.ntmps69;go_wp2_with (go_at_call 67;refine (dL _ _ _ _ _ H.out _).mono ?_;rintro e w' ⟨rfl,rfl⟩;rw [hs])
   go_ret;go_light;exact ⟨by rw [HE.out,hdi];rfl,rfl⟩
 ·have hs' : ei l seat=false:=by simpa using hs
  have HE:fW l d seat=0:=by simp [fW,hs']
  clear hs;go_enter Tryz.func69,Tryz.ntmps69;go_wp2_with (go_at_call 67;refine (dL _ _ _ _ _ H.out _).mono ?_;rintro e w' ⟨rfl,rfl⟩;rw [hs'])
  go_ret;go_light;exact ⟨by rw [HE];rfl,rfl⟩
def gS:List Int→List Bool→Int
 | x :: l,y :: d=>(if y then x else 0)+gS l d
 | _,_=>0
theorem qS {l:List Int} {d:List Bool} {k:Nat} (hk:k < l.length) (hk' : k < d.length):fW l d k=if d[k] then l[k] else 0:=by simp [fW,qP hk,hk,hk']
theorem qT (w:World) (g:Nat) (l:List Int) (d:List Bool) (b:Int) (h:aC w g l d b):Calls Tryz.prog 25 #[.pointer (some ⟨g,0,none⟩)] w fun e w'=>e=.returned (.int .i64 (gS l d))∧w=w':=by
 have h0:=h.c0;have n8:=h.ok.n8;have hdl:=h.ok.dl;obtain ⟨n,hn⟩:∃n,n=l.length:=⟨_,rfl⟩;rw [←hn] at h0 n8 hdl;have H:=aa h;clear h;have HN:=aa hn;clear hn;have HDL:=aa hdl;clear hdl;go_enter Tryz.func25,Tryz.ntmps25;go_wp2_with fail
 go_loop [3,11] (fun s i=>∃(k:Nat) (sv:Int),k≤n∧i=.int .i64 k∧s=.int .i64 sv∧0≤sv∧sv≤1125899906842624*(k:Int)∧Hid (sv+gS (l.drop k) (d.drop k)=gS l d)) (fun _ i=>n - (intOf i).toNat);case atStart=>exact ⟨0,0,Nat.zero_le _,rfl,rfl,by omega,by omega,by show _=_;simp⟩
 case round=>
  obtain ⟨k,sv,hk,rfl,rfl,hs1,hs2,hs⟩:=hrel;by_cases hlt:k < n
  ·have k1:k < l.length:=by have:=HN.out;omega
   have k2:k < d.length:=by have:=HDL.out;omega
   have e1:=hs.out;rw [dJ (List.getElem?_eq_getElem k1),dJ (List.getElem?_eq_getElem k2)] at e1;simp only [gS] at e1;obtain ⟨p1,p2⟩:=H.ok.pos l[k] (List.getElem_mem k1);have eg:=qS k1 k2;obtain ⟨v,hv⟩:∃v,v=(if d[k] then l[k] else 0):=⟨_,rfl⟩;have v0:0≤v∧v≤1125899906842624:=by rw [hv];split <;> omega
   obtain ⟨v1,v2⟩:=v0;rw [←hv] at e1 eg;have E1:=aa e1;have EG:=aa eg;clear e1 eg hv p1 p2 k1 k2;go_wp2_with (go_at_call 69;refine (pD _ _ _ _ _ H.out _).mono ?_;rintro e w' ⟨rfl,rfl⟩;rw [EG.out])
   go_round;case rel=>exact ⟨k+1,sv+v,by omega,by go_num,rfl,by omega,by omega,by have:=E1.out;show _=_;omega⟩
   case measure=>simp [intOf];omega
  ·go_wp2_with fail
   go_ret;go_light;have e1:=hs.out;rw [List.drop_eq_nil_of_le (by have:=HN.out;omega)] at e1;exact ⟨by rw [←e1];simp [gS],rfl⟩
def dM (l:List Int):Bool:=l.any (· == 0)
def ej (l:List Int) (b:Int):Int:=
 if l.length < 2∨8 < l.length then 1 else if dM l=true then 2 else if (cu 0 l).2≠0 then 2 else if b < 0∨1099511627776 < b then 2 else 0
theorem j2 (s x:Int):(jx s x=0∧bL s=true∧bL x=true∧bL (s+x)=true∧lF s x=s+x)∨jx s x=2:=by unfold jx lF;by_cases h1:bL s=true <;> by_cases h2:bL x=true <;> by_cases h3:bL (s+x)=true <;> simp_all
theorem nb:∀(l:List Int) (s:Int),(cu s l).2=0→bL s=true→(∀x∈l,bL x=true)∧(cu s l).1=s+l.foldr (· + ·) 0∧bL (s+l.foldr (· + ·) 0)=true
 | [],s,_,hs=>by simp [cu,hs]
 | x :: l,s,h,hs=>by
  rcases j2 s x with ⟨h1,h2,h3,h4,h5⟩ | h1
  ·rw [cu,if_pos h1] at h ⊢;rw [h5] at h ⊢;obtain ⟨i1,i2,i3⟩:=nb l (s+x) h h4;refine ⟨fun y hy=>?_,by rw [i2,List.foldr_cons];omega,by rw [List.foldr_cons,←Int.add_assoc];exact i3⟩;rcases List.mem_cons.1 hy with rfl | hy
   ·exact h3
   ·exact i1 y hy
  ·rw [cu,if_neg (by omega)] at h;simp [h1] at h
theorem lL:∀(l:List Int) (s:Int),(cu s l).2=0∨(cu s l).2=2
 | [],s=>.inl rfl
 | x :: l,s=>by
  rcases j2 s x with ⟨h1,_⟩ | h1
  ·rw [cu,if_pos h1];exact lL l _
  ·rw [cu,if_neg (by omega)];exact .inr h1
theorem pE {l:List Int} {b:Int} (h:ej l b=0):pB l (List.replicate l.length false) b∧(cu 0 l).2=0∧dM l=false∧(cu 0 l).1=l.foldr (· + ·) 0:=by
 unfold ej at h;by_cases h1:l.length < 2∨8 < l.length
 ·rw [if_pos h1] at h;cases h
 rw [if_neg h1] at h;by_cases h2:dM l=true
 ·rw [if_pos h2] at h;cases h
 rw [if_neg h2] at h;by_cases h3:(cu 0 l).2≠0
 ·rw [if_pos h3] at h;cases h
 rw [if_neg h3] at h;by_cases h4:b < 0∨1099511627776 < b
 ·rw [if_pos h4] at h;cases h
 have h3' : (cu 0 l).2=0:=by simpa using h3
 obtain ⟨i1,i2,i3⟩:=nb l 0 h3' rfl;have i4:=gP i3;refine ⟨⟨by omega,by omega,by simp,fun x hx=>?_,by omega,by omega,by omega⟩,h3',by simpa using h2,by omega⟩;have h5:=gP (i1 x hx);have h6:x≠0:=fun e=>h2 (by rw [dM,List.any_eq_true];exact ⟨x,hx,by simp [e]⟩);omega
theorem nY (l:List Int) (b:Int) (h:l.length≤8):splice [Value.int .i64 (l.length:Nat),.int .i64 0,.int .i64 0,.int .i64 0,.int .i64 0,.int .i64 0,.int .i64 0,.int .i64 0,.int .i64 0,.bool false,.bool false,.bool false,.bool false,.bool false,.bool false,.bool false,.bool false,.int .i64 b] 1 (l.map (.int .i64))=cD l (List.replicate l.length false) b:=by
 match l,h with
 | [],_ | [_],_ | [_,_],_ | [_,_,_],_ | [_,_,_,_],_ | [_,_,_,_,_],_ | [_,_,_,_,_,_],_ | [_,_,_,_,_,_,_],_ | [_,_,_,_,_,_,_,_],_=>rfl
 | _ :: _ :: _ :: _ :: _ :: _ :: _ :: _ :: _ :: _,h=>exact absurd h (by simp)
set_option maxHeartbeats 800000 in
set_option maxRecDepth 20000 in
theorem tj (A:Option Addr) (n c:Nat) (zs:List Int) (b:Int) (w:World) (h:Sl w w.heap.size 1 A n (zs.map (.int .i64))):Calls Tryz.prog 21 #[.slice A n c,.int .i64 b] w fun e w'=>
   (ej zs b≠0∧e=.returned (.tuple #[.pointer none,.int .i64 (ej zs b)])∧w=w')∨
   (ej zs b=0∧e=.returned (.tuple #[.pointer (some ⟨w.heap.size,0,none⟩),.int .i64 0])∧aC w' w.heap.size zs (List.replicate zs.length false) b∧Below w.heap.size w w'):=by
 have hn:=h.le;have hl:=h.length;have H:=aa h;clear h;have hpost:∀k:Int,k≠0→ej zs b=k→∀w',w=w'→(ej zs b≠0∧Ending.returned (.tuple #[.pointer none,.int .i64 k])=.returned (.tuple #[.pointer none,.int .i64 (ej zs b)])∧w=w'):=by rintro k hk rfl w' rfl;exact ⟨hk,rfl,rfl⟩
 have HP:=aa hpost;clear hpost;have HL:=aa hl;clear hl;have hE:ej zs b=if n < 2∨8 < n then 1 else if dM zs=true then 2 else if (cu 0 zs).2≠0 then 2 else if b < 0∨1099511627776 < b then 2 else 0:=by rw [ej,HL.out]
 have HE:=aa hE;clear hE;by_cases h2:n < 2
 ·have h2' : (n:Int) < 2:=by omega
  go_enter Tryz.func21,Tryz.ntmps21;go_wp2_with fail
  go_ret2;exact .inl (HP.out 1 (by decide) (by rw [HE.out,if_pos (.inl h2)]) _ rfl)
 by_cases h8:8 < n
 ·have h2' : ¬(n:Int) < 2:=by omega
  have h8' : (8:Int) < n:=by omega
  go_enter Tryz.func21,Tryz.ntmps21;go_wp2_with fail
  go_ret2;exact .inl (HP.out 1 (by decide) (by rw [HE.out,if_pos (.inr h8)]) _ rfl)
 have hE2:ej zs b=if dM zs=true then 2 else if (cu 0 zs).2≠0 then 2 else if b < 0∨1099511627776 < b then 2 else 0:=by rw [HE.out,if_neg (by omega)]
 have HE2:=aa hE2;clear hE2 HE;have h2' : (2:Int)≤n:=by omega
 have h8' : (n:Int)≤8:=by omega
 have hd2:decide ((n:Int) < 2)=false:=by simp;omega
 have hd8:decide ((8:Int) < n)=false:=by simp;omega
 clear h2 h8;go_enter Tryz.func21,Tryz.ntmps21;go_wp2_with fail
 go_loop [21] (fun i=>∃(k:Nat),k≤n∧i=.int .i64 k∧Hid (dM (zs.drop k)=dM zs)) (fun i=>n - (intOf i).toNat);case atStart=>exact ⟨0,Nat.zero_le _,rfl,rfl⟩
 case round=>
  obtain ⟨k,hk,rfl,hs⟩:=hrel;by_cases hlt:k < n
  ·obtain ⟨ad,z,rfl,hb,hz,hc⟩:=H.at_ hlt;have e1:=hs.out;rw [dJ hz] at e1;have E1:=aa e1;clear e1 hz;by_cases hz0:z=0
   ·subst hz0;go_wp2_with fail
    go_ret2;go_light;exact .inl (HP.out 2 (by decide) (by rw [HE2.out,←E1.out];simp [dM]) _ rfl)
   ·have hz0' : (z == 0)=false:=by simp [hz0]
    have E2:Hid (dM (zs.drop (k+1))=dM zs):=by show _=_;rw [←E1.out];simp [dM,hz0]
    clear E1;go_wp2_with fail
    go_round;case rel=>exact ⟨k+1,by omega,by go_num,E2⟩
    case measure=>simp [intOf];omega
  ·have e1:=hs.out;rw [List.drop_eq_nil_of_le (by have:=HL.out;omega)] at e1;have hz:dM zs=false:=by rw [←e1];rfl
   have hE3:ej zs b=if (cu 0 zs).2≠0 then 2 else if b < 0∨1099511627776 < b then 2 else 0:=by rw [HE2.out,if_neg (by rw [hz];decide)]
   have HE3:=aa hE3;clear hE3 HE2 hz e1 hs;by_cases hsum:(cu 0 zs).2=0
   ·have hE4:ej zs b=if b < 0∨1099511627776 < b then 2 else 0:=by
     rw [HE3.out,if_neg (by rw [hsum];decide)]
    have HE4:=aa hE4;clear hE4 HE3;by_cases hb0:b < 0
    ·go_wp2_with (go_at_call 66;refine (iT _ _ _ _ _ H.out).mono ?_;rintro e w' ⟨rfl,rfl⟩;rw [hsum])
     go_ret2;go_light;exact .inl (HP.out 2 (by decide) (by rw [HE4.out,if_pos (.inl hb0)]) _ rfl)
    by_cases hb1:1099511627776 < b
    ·have hb0' : decide (b < 0)=false:=by simp;omega
     go_wp2_with (go_at_call 66;refine (iT _ _ _ _ _ H.out).mono ?_;rintro e w' ⟨rfl,rfl⟩;rw [hsum])
     go_ret2;go_light;exact .inl (HP.out 2 (by decide) (by rw [HE4.out,if_pos (.inr hb1)]) _ rfl)
    have hok:ej zs b=0:=by rw [HE4.out,if_neg (by omega)]
    have HOK:=aa hok;clear hok HE4;have hb0' : decide (b < 0)=false:=by simp;omega
    have hb1' : b≤1099511627776:=by omega
    have hb0'' : 0≤b:=by omega
    clear hb0 hb1;have hbl0:=ai w (.cells [Value.int .i64 (n:Nat),.int .i64 0,.int .i64 0,.int .i64 0,.int .i64 0,.int .i64 0,.int .i64 0,.int .i64 0,.int .i64 0,.bool false,.bool false,.bool false,.bool false,.bool false,.bool false,.bool false,.bool false,.int .i64 b].toArray 140);have HB0:=aa hbl0;clear hbl0;go_wp2_with (first | (go_at_call 66;refine (iT _ _ _ _ _ H.out).mono ?_;rintro e w' ⟨rfl,rfl⟩;rw [hsum]) | (refine wpList_copy_splice rfl (.tmp 49) (.tmp 50) 22 22 rfl 3 Tryz.underlying22 (by kernel_rfl) _ _ 8 8 n c rfl rfl w.heap.size 1 [Value.int .i64 (n:Nat),.int .i64 0,.int .i64 0,.int .i64 0,.int .i64 0,.int .i64 0,.int .i64 0,.int .i64 0,.int .i64 0,.bool false,.bool false,.bool false,.bool false,.bool false,.bool false,.bool false,.bool false,.int .i64 b] 140 (heap_alloc_last w _) (zs.map (.int .i64)) (by rw [List.length_map,HL.out];exact (Nat.min_eq_left (by omega)).symm) (fun _=>(by obtain ⟨ad,e,_,hc⟩:=(H.alloc (Nat.le_refl _) _).mem (by omega);exact ⟨rfl,ad,e,hc⟩)) (by have:=HL.out;simp;omega) (iq _ _) w.heap.size w HB0.out (Nat.le_refl _) ?_;intro w2 HG2 hB2))
    go_ret2;go_light;refine .inr ⟨HOK.out,rfl,⟨?_,(pE HOK.out).1⟩,hB2⟩;have e2:=HG2.out;rw [←HL.out,nY zs b (by have:=HL.out;omega)] at e2;exact e2
   ·have hsum' : (cu 0 zs).2=2:=by have:=lL zs 0;omega
    go_wp2_with (go_at_call 66;refine (iT _ _ _ _ _ H.out).mono ?_;rintro e w' ⟨rfl,rfl⟩;rw [hsum'])
    go_ret2;go_light;exact .inl (HP.out 2 (by decide) (by rw [HE3.out,if_pos hsum]) _ rfl)
theorem xS {l:List Int} {b:Int} (h0:ej l b=0) (A:Option Addr) (n c:Nat) (w:World) (h:Sl w w.heap.size 1 A n (l.map (.int .i64))):Calls Tryz.prog 21 #[.slice A n c,.int .i64 b] w fun e w'=>
   e=.returned (.tuple #[.pointer (some ⟨w.heap.size,0,none⟩),.int .i64 0])∧aC w' w.heap.size l (List.replicate l.length false) b∧Below w.heap.size w w':=
 (tj A n c l b w h).mono fun e w' hh=>by
  rcases hh with ⟨hne,_⟩ | ⟨_,h1⟩
  ·exact absurd h0 hne
  ·exact h1
theorem nZ {l:List Int} {d d' : List Bool} {b seat amt now:Int} (he:fV l d b seat amt now=0) (hd:jy l d b seat amt now=d') (w:World) (g:Nat) (h:aC w g l d b):Calls Tryz.prog 22 #[.pointer (some ⟨g,0,none⟩),.int .i64 seat,.int .i64 amt,.int .i64 now] w fun e w'=>e=.returned (.int .i64 0)∧aC w' g l d' b∧w.grownBy w' (some g):=by have:=ti w g l d b h seat amt now;rwa [he,hd] at this
theorem vk {l:List Int} {d d' : List Bool} {b seat now v k:Int} (he:ee l d seat=k) (hv:gQ l d seat=v) (hd:gR l d seat=d') (w:World) (g:Nat) (h:aC w g l d b):Calls Tryz.prog 23 #[.pointer (some ⟨g,0,none⟩),.int .i64 seat,.int .i64 now] w fun e w'=>e=.returned (.tuple #[.int .i64 v,.int .i64 k])∧aC w' g l d' b∧w.grownBy w' (some g):=by have:=qR w g l d b h seat now;rwa [he,hd,hv] at this
set_option maxHeartbeats 1000000 in
theorem qU (w:World):Calls Tryz.prog 6 #[] w fun e w'=>e=.returned (.bool true)∧Below w.heap.size w w':=by
 go_enter Tryz.func6,Tryz.ntmps6;go_wp2_with fail
 refine (xS (l:=[5,3]) (b:=10) (by decide) _ _ _ _ (nO w #[.int .i64 5,.int .i64 3] 3 1 2 rfl (by omega))).mono ?_;rintro e w1 ⟨rfl,hf1,hb1⟩;have HB1:=ab (ai w (.cells #[.int .i64 5,.int .i64 3] 3)) hb1;obtain ⟨g,hg⟩:∃g,(w.alloc (.cells #[.int .i64 5,.int .i64 3] 3)).heap.size=g:=⟨_,rfl⟩;have hgw:w.heap.size≤g:=by rw [←hg];simp
 rw [hg] at hf1 ⊢;clear hb1 hg;go_wp2_with fail
 refine (nZ (d':=[true,false]) (by decide) (by decide) _ _ hf1).mono ?_;rintro e w2 ⟨rfl,hf2,hg2⟩;have HB2:=ag HB1 hg2 HB1.size hgw;clear hf1 hg2;go_wp2_with fail
 refine (vk (v:=5) (k:=0) (d':=[false,false]) (by decide) (by decide) (by decide) _ _ hf2).mono ?_;rintro e w3 ⟨rfl,hf3,hg3⟩;have HB3:=ag HB2 hg3 HB2.size hgw;clear hf2 hg3;go_wp2_with fail
 refine (nZ (d':=[true,false]) (by decide) (by decide) _ _ hf3).mono ?_;rintro e w4 ⟨rfl,hf4,hg4⟩;have HB4:=ag HB3 hg4 HB3.size hgw;clear hf3 hg4;go_wp2_with fail
 refine (nZ (d':=[true,true]) (by decide) (by decide) _ _ hf4).mono ?_;rintro e w5 ⟨rfl,hf5,hg5⟩;have HB5:=ag HB4 hg5 HB4.size hgw;clear hf4 hg5;go_wp2_with fail
 refine (pC _ _ _ _ _ hf5 11).mono ?_;rintro e w6 ⟨rfl,hb6⟩;have HB6:=ab HB5 hb6;have hf6:=hf5.later hb6;rw [show lK [true,true] 10 11=1 by decide];clear hf5 hb6;go_wp2_with fail
 refine (qT _ _ _ _ _ hf6).mono ?_;rintro e w7 ⟨rfl,rfl⟩;rw [show gS [5,3] [true,true]=8 by decide];clear hf6;go_wp2_with fail
 go_ret;exact ⟨rfl,HB6⟩
end Go.Proofs.YtllbdpdnpaocnaaGreatDoor
