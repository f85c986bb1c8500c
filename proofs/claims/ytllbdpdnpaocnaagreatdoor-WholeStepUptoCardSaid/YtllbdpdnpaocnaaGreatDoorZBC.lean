/- Part of the proof of WholeStep. -/
import Derived.Test.YtllbdpdnpaocnaaGreatDoorZBB
namespace Go.Proofs.YtllbdpdnpaocnaaGreatDoor
set_option linter.unusedSimpArgs false
set_option linter.unusedVariables false
set_option linter.constructorNameAsVariable false
open Go.RowKit Go.Maps
theorem bZ.spot {w:World} {B:Nat} {c:Sln} {L:List aX} (h:bZ w B c L) {k:Nat} (hk:k < c.N):∃b o i,c.A=some ⟨b,o,none⟩∧b < B∧L[k]?=some i∧w.rangeAt b (o+k*4) (ay i)∧eB i:=by obtain ⟨b,o,i,hA,hb,hi,hc⟩:=Sl.cellO (f:=ay) (m:=4) (fun _=>rfl) (by omega) h.sl hk h.len;exact ⟨b,o,i,hA,hb,hi,hc,h.ok i (List.mem_of_getElem? hi)⟩
theorem ko {l:List InT} {s:MsT} (h:(l.length:Int)≤s.pc):bV l s=none:=by unfold bV;rw [if_pos (.inr h)]
theorem k8 {l:List InT} {s:MsT} {i:InT} (hi:l[s.pc.toNat]?=some i) (hr:cw i l.length s.mem.length=false):bV l s=none:=by
 unfold bV;split
 ·rfl
 ·rw [hi];simp only [hr];simp
theorem uu {l:List InT} {s:MsT} {i:InT} (h1:l.length≤2048) (h2:s.pc < l.length) (hi:l[s.pc.toNat]?=some i) (hr:cw i l.length s.mem.length=true):bV l s=some i:=by unfold bV;rw [if_neg (by omega),hi];simp only [hr,if_true]
def AS (L:List aX) (s:MsT) (e:Ending):Prop:=
 (∃i,L[s.pc.toNat]?=some i∧eB i∧bV (L.map toI) s=some (toI i)∧e=.returned (.tuple #[.agg (ay i).toArray,.bool true]))∨
 (bV (L.map toI) s=none∧e=.returned (.tuple #[.agg (ay ⟨0,0,0,0⟩).toArray,.bool false]))
theorem jD (w:World):(Instr.build 51 #[]).run Tryz.prog w=.ok (.agg (ay ⟨0,0,0,0⟩).toArray) w:=by kernel_rfl
set_option maxRecDepth 20000 in
set_option maxHeartbeats 1000000 in
theorem ql (w:World) (z:Nat) (A:Option Addr) (C:Nat) (s:MsT) (c:Sln) (L:List aX) (h:oM w z A C s) (hc:bZ w w.heap.size c L) (hL:cX w):Calls Tryz.prog 82 #[.pointer (some ⟨z,0,none⟩),.slice c.A c.N c.C] w fun e w'=>AS L s e∧Below w.heap.size w w':=by
 obtain ⟨g,hg⟩:∃g,w.heap.size=g:=⟨_,rfl⟩;obtain ⟨w1,hw1⟩:∃w1,w.alloc (.cells #[.int .i64 0,.int .i64 0,.int .i64 0,.int .i64 0] 51)=w1:=⟨_,rfl⟩;have hk:Bk w1 g 51 (ay ⟨0,0,0,0⟩):=hw1▸Bk.at_ w _ _ hg rfl;have hb:Below w.heap.size w w1:=hw1▸ai w _;obtain ⟨p,hp⟩:∃p:Nat,s.pc=p:=⟨s.pc.toNat,by have:=h.ok.pc;omega⟩;obtain ⟨n,hn⟩:∃n,s.mem.length=n:=⟨_,rfl⟩;have hsz:Hid (L.length=c.N∧c.N≤2048∧(L.map toI).length=c.N):=⟨hc.len,hc.few,by rw [List.length_map];exact hc.len⟩;have hcb:bZ w1 w.heap.size c L:=hc.below hb;have HC:=aa hcb;have HW:=aa hw1;have HB:=aa hb;have HG:=aa hg;have HK:=aa hk;have HP:=aa hp;have HN:=aa hn;have HL:=aa (hL.later hb);have HZC:Hid (∀wk,Below w1.heap.size w1 wk→wk.cell? ⟨z,0,none⟩=some (.int .i64 (p:Int))∧wk.cell? ⟨z,1,none⟩=some (.slice A n C)):=fun wk hbk=>by have h1:=((h.bk.later hb).later hbk).cell 0;have h2:=((h.bk.later hb).later hbk).cell 1;rw [hp] at h1;rw [hn] at h2;exact ⟨by simpa [aF] using h1,by simpa [aF] using h2⟩
 have hN2:(c.N:Int)≤2048:=by have:=hc.few;omega
 clear hk hw1 hg hb hp hn hcb hc hL h;go_enter Tryz.func82,Tryz.ntmps82;go_upto_region 1 with fail
 rw [HW.out,HG.out];by_cases hlt:p < c.N
 ·obtain ⟨b,o,i,hA,hbl,hi,hr,hok⟩:=HC.spot hlt;have HI:=aa hi;have HOK:=aa hok;have HR:=aa hr;have HBL:=aa hbl;have HA:=aa hA;have hpN:(p:Int) < c.N:=by omega
  clear hi hok hr hbl hA;rw [HA.out];refine wp_region_held_drew (S:=fun wk=>wk.cell? ⟨z,0,none⟩=some (.int .i64 (p:Int))∧wk.cell? ⟨z,1,none⟩=some (.slice A n C)∧wk.rangeAt b (o+p*4) (ay i)) (by kernel_rfl) ⟨(HZC.out _ (ac w1 _ 1)).1,(HZC.out _ (ac w1 _ 1)).2,bu HR.out (ac w1 _ 1) (Nat.lt_of_lt_of_le HBL.out HB.size)⟩ (fun hHeld=>?_);obtain ⟨w2,hw2⟩:∃wa,w1.drew=wa:=⟨_,rfl⟩;have hb2:Below w1.heap.size w1 w2:=hw2▸ac w1 w1.heap.size 1;rw [hw2] at hHeld ⊢;have HB2:=aa hb2;have HK2:=aa (HK.later hb2);clear hw2 hb2;have hd1:decide ((2048:Int) < c.N)=false:=by simp;omega
  have hd2:decide (c.N≤p)=false:=by simp;omega
  refine tk 0 ?_;refine tk 1 ?_;refine tk 2 ?_;refine tk 3 ?_;refine tk 4 ?_;refine tk 8 ?_;refine tk 5 ?_;refine tk 9 ?_;refine tk 6 ?_;refine tkv 7 rfl (fun w hSw=>by have hcell:=hSw.1;clear hSw;go_simp;try with_reducible rfl) ?_;refine tk 10 ?_;refine tk 11 ?_;refine tk 12 ?_;refine tk 13 ?_;refine tk 14 ?_;refine tk 20 ?_;refine tk 22 ?_;refine tk 15 ?_;refine tk 21 ?_;refine tk 23 ?_;refine tk 16 ?_;refine tk 24 ?_;refine tkv 17 rfl (fun w hSw=>by have hcell:=hSw.1;clear hSw;go_simp;try with_reducible rfl) ?_;refine tkv 25 rfl (fun w hSw=>by have hcell:=hSw.2.1;clear hSw;go_simp;try with_reducible rfl) ?_;refine tk 18 ?_;refine tk 26 ?_;refine tkR 19 (ay i) (fun w hSw=>hSw.2.2) Tryz.underlying51 ((aW i)) ?_;obtain ⟨q,hq⟩:∃q,cw (toI i) c.N n=q:=⟨_,rfl⟩;refine rd1 27 (fun K hK=>?_);go_simp
  (refine (mm w2 i c.N n (HL.later HB2.out)).mono ?_;rintro e w3 ⟨rfl,hbn⟩;rw [hq];have HB3:=aa (ab HB2.out hbn);clear hbn)
  refine so hK (⟨(HZC.out _ HB3.out).1,(HZC.out _ HB3.out).2,bu HR.out HB3.out (Nat.lt_of_lt_of_le HBL.out HB.size)⟩) (fun hHeld=>?_);clear hK K;refine tk 28 ?_;refine tk 29 ?_;refine wpAnyH_done rfl ?_ _;have HQ:=aa hq;clear hq;cases q with
  | false=>
   go_wp2_with (first | ((with_reducible refine aS rfl 51 _ rfl #[] ?_ _ (jD _) ?_);focus (simp [Act.eval,Act.put];done)) | (with_reducible refine ah 51 _ _ rfl ?_))
   refine ak.go ?_;refine ae rfl 51 _ _ rfl g 0 (.agg (ay ⟨0,0,0,0⟩).toArray) (ay ⟨0,0,0,0⟩) rfl rfl rfl 51 [] (ay ⟨0,0,0,0⟩) [] (by simpa using HK.later HB3.out) rfl rfl (aW _) (dN _) ?_;intro w6 hp;have HK6:Hid (Bk w6 g 51 (ay ⟨0,0,0,0⟩)):=by show Bk _ _ _ _;have:=hp.bk;simpa using this
   have HB6:=aa (ag (ab HB.out HB3.out) hp.only (ab HB.out HB3.out).size (by have:=HG.out;omega));clear hp;go_wp2_with fail
   refine bodyPost_ret (bp rfl _ _ g 51 (ay ⟨0,0,0,0⟩) _ rfl HK6.out Tryz.underlying51 rfl (aW _)) rfl ?_;exact ⟨.inr ⟨k8 (i:=toI i) (by rw [HP.out,Int.toNat_natCast,List.getElem?_map,HI.out];rfl) (by rw [HN.out,hsz.out.2.2];exact HQ.out),rfl⟩,HB6.out⟩
  | true=>
   have c0:=(HZC.out _ HB3.out).1;go_wp2_with (first | (with_reducible refine wpList_load_mid rfl 51 _ rfl b (o+p*4) rfl (ay i) _ (bu HR.out HB3.out (Nat.lt_of_lt_of_le HBL.out HB.out.size)) Tryz.underlying51 rfl (aW i) ?_) | (with_reducible refine ah 51 _ _ rfl ?_))
   refine ak.go ?_;refine ae rfl 51 _ _ rfl g 0 (.agg (ay i).toArray) (ay i) rfl rfl rfl 51 [] (ay ⟨0,0,0,0⟩) [] (by simpa using HK.later HB3.out) rfl rfl (aW _) (dN _) ?_;intro w6 hp;have HK6:Hid (Bk w6 g 51 (ay i)):=by show Bk _ _ _ _;have:=hp.bk;simpa using this
   have HB6:=aa (ag (ab HB.out HB3.out) hp.only (ab HB.out HB3.out).size (by have:=HG.out;omega));clear hp;go_wp2_with fail
   refine bodyPost_ret (bp rfl _ _ g 51 (ay i) _ rfl HK6.out Tryz.underlying51 rfl (aW _)) rfl ?_;exact ⟨.inl ⟨i,by rw [HP.out,Int.toNat_natCast];exact HI.out,HOK.out,uu (by rw [hsz.out.2.2];exact hsz.out.2.1) (by rw [hsz.out.2.2,HP.out];exact hpN) (by rw [HP.out,Int.toNat_natCast,List.getElem?_map,HI.out];rfl) (by rw [HN.out,hsz.out.2.2];exact HQ.out),rfl⟩,HB6.out⟩
 ·refine wp_region_held_drew (S:=fun wk=>wk.cell? ⟨z,0,none⟩=some (.int .i64 (p:Int))) (by kernel_rfl) (HZC.out _ (ac w1 _ 1)).1 (fun hHeld=>?_);obtain ⟨w2,hw2⟩:∃wa,w1.drew=wa:=⟨_,rfl⟩;have hb2:Below w1.heap.size w1 w2:=hw2▸ac w1 w1.heap.size 1;rw [hw2] at hHeld ⊢;have HB2:=aa hb2;clear hw2 hb2;have hd1:decide ((2048:Int) < c.N)=false:=by simp;omega
  have hd2:decide (c.N≤p)=true:=by simp;omega
  refine tk 0 ?_;refine tk 1 ?_;refine tk 2 ?_;refine tk 3 ?_;refine tk 4 ?_;refine tk 8 ?_;refine tk 5 ?_;refine tk 9 ?_;refine tk 6 ?_;refine tkv 7 rfl (fun w hSw=>by have hcell:=hSw;clear hSw;go_simp;try with_reducible rfl) ?_;refine tk 10 ?_;refine tk 11 ?_;refine tk 12 ?_;refine tk0 13 ?_;refine tk0 14 ?_;refine tk0 15 ?_;refine tk0 16 ?_;refine tk0 17 ?_;refine tk0 18 ?_;refine tk0 19 ?_;refine tk0 20 ?_;refine tk0 21 ?_;refine tk0 22 ?_;refine tk0 23 ?_;refine tk0 24 ?_;refine tk0 25 ?_;refine tk0 26 ?_;refine tk0 27 ?_;refine tk0 28 ?_;refine tk 29 ?_;refine wpAnyH_done rfl ?_ _;go_wp2_with (first | ((with_reducible refine aS rfl 51 _ rfl #[] ?_ _ (jD _) ?_);focus (simp [Act.eval,Act.put];done)) | (with_reducible refine ah 51 _ _ rfl ?_))
  refine ak.go ?_;refine ae rfl 51 _ _ rfl g 0 (.agg (ay ⟨0,0,0,0⟩).toArray) (ay ⟨0,0,0,0⟩) rfl rfl rfl 51 [] (ay ⟨0,0,0,0⟩) [] (by simpa using HK.later HB2.out) rfl rfl (aW _) (dN _) ?_;intro w6 hp;have HK6:Hid (Bk w6 g 51 (ay ⟨0,0,0,0⟩)):=by show Bk _ _ _ _;have:=hp.bk;simpa using this
  have HB6:=aa (ag (ab HB.out HB2.out) hp.only (ab HB.out HB2.out).size (by have:=HG.out;omega));clear hp;go_wp2_with fail
  refine bodyPost_ret (bp rfl _ _ g 51 (ay ⟨0,0,0,0⟩) _ rfl HK6.out Tryz.underlying51 rfl (aW _)) rfl ?_;exact ⟨.inr ⟨ko (by rw [HP.out,hsz.out.2.2];omega),rfl⟩,HB6.out⟩
structure MsW (w:World) (z q C:Nat) (s:MsT):Prop where
 bk:Bk w z 38 (aF s.pc (.slice (some ⟨q,0,none⟩) s.mem.length C) s.halt)
 row:∃ys,Bk w q 21 (s.mem.map (.int .i32) ++ ys)
 ok:eF s
theorem wZ {w:World} {q:Nat} {m:List Int} {ys:List Value} (h:Bk w q 21 (m.map (.int .i32) ++ ys)) (hm:m.length≤256):Sl w w.heap.size 1 (some ⟨q,0,none⟩) m.length (m.map (.int .i32)):=
 ⟨by simp,by omega,fun _=>⟨_,rfl,h.lt,fun j u hu=>by
  have h1:=h.cell j;rw [List.getElem?_append_left (List.getElem?_eq_some_iff.1 hu).1,hu] at h1;rw [fH,Nat.zero_add];exact h1⟩⟩
theorem MsW.rd {w:World} {z q C:Nat} {s:MsT} (h:MsW w z q C s):oM w z (some ⟨q,0,none⟩) C s:=by obtain ⟨ys,hr⟩:=h.row;exact ⟨h.bk,wZ hr h.ok.len.2,h.ok⟩
theorem MsW.later {w w' : World} {z q C:Nat} {s:MsT} (h:MsW w z q C s) (hb:Below w.heap.size w w'):MsW w' z q C s:=by obtain ⟨ys,hr⟩:=h.row;exact ⟨h.bk.later hb,⟨ys,hr.later hb⟩,h.ok⟩
theorem MsW.ne {w:World} {z q C:Nat} {s:MsT} (h:MsW w z q C s):z≠q:=by
 obtain ⟨ys,hr⟩:=h.row;intro e;subst e;have h1:=h.bk;unfold Bk at h1 hr;rw [h1] at hr;injection hr with hr
 injection hr with _ hr _
 revert hr;decide
structure Ch2 (z q:Nat) (w w' : World):Prop where
 os:w'.os=w.os
 tape:w'.tape=w.tape
 output:w'.output=w.output
 size:w.heap.size≤w'.heap.size
 block:∀k,k < w.heap.size→k≠z→k≠q→w'.heap[k]?=w.heap[k]?
theorem Ch2.refl (z q:Nat) (w:World):Ch2 z q w w:=⟨rfl,rfl,rfl,Nat.le_refl _,fun _ _ _ _=>rfl⟩
theorem Ch2.trans {z q:Nat} {a b c:World} (h:Ch2 z q a b) (k:Ch2 z q b c):Ch2 z q a c:=
 ⟨k.os.trans h.os,k.tape.trans h.tape,k.output.trans h.output,Nat.le_trans h.size k.size,fun x hx h1 h2=>(k.block x (Nat.lt_of_lt_of_le hx h.size) h1 h2).trans (h.block x hx h1 h2)⟩
theorem Ch2.of_below {z q:Nat} {w w' : World} (h:Below w.heap.size w w'):Ch2 z q w w':=⟨h.os,h.tape,h.output,h.size,fun b hb _ _=>h.block b hb⟩
theorem Ch2.of_only {z q g:Nat} {w w' : World} (h:w.grownBy w' (some g)) (hg:g=z∨g=q):Ch2 z q w w':=
 ⟨h.os,h.tape,h.output,h.size,fun b hb h1 h2=>h.block b hb (fun e=>by injection e with e;omega)⟩
theorem Ch2.bk {z q g:Nat} {w w' : World} {t:TypeId} {xs:List Value} (h:Ch2 z q w w') (hb:Bk w g t xs) (h1:g≠z) (h2:g≠q):Bk w' g t xs:=(h.block g hb.lt h1 h2).trans hb
theorem Ch2.below {z q B:Nat} {w0 w w' : World} (h:Ch2 z q w w') (hb:Below B w0 w) (hz:B≤z) (hq:B≤q) (hw:B≤w.heap.size):Below B w0 w':=
 ⟨h.os.trans hb.os,h.tape.trans hb.tape,h.output.trans hb.output,Nat.le_trans hb.size h.size,fun k hk=>(h.block k (Nat.lt_of_lt_of_le hk hw) (by omega) (by omega)).trans (hb.block k hk)⟩
theorem uv {m:List Int} {j:Nat} (hj:j < m.length) (ys:List Value):m.map (Value.int .i32) ++ ys=(m.take j).map (Value.int .i32) ++ ([Value.int .i32 (m[j])] ++ ((m.drop (j+1)).map (Value.int .i32) ++ ys)):=by
 have h:m=m.take j ++ (m[j] :: m.drop (j+1)):=by rw [List.getElem_cons_drop,List.take_append_drop]
 calc m.map (Value.int .i32) ++ ys=(m.take j ++ (m[j] :: m.drop (j+1))).map (Value.int .i32) ++ ys:=by rw [←h]
  _=_:=by rw [List.map_append,List.map_cons,List.append_assoc];rfl
theorem xa (m:List Int) {j:Nat} (hj:j < m.length) (v:Int) (ys:List Value):(m.take j).map (Value.int .i32) ++ ([Value.int .i32 v] ++ ((m.drop (j+1)).map (Value.int .i32) ++ ys))=(cO m (j:Int) v).map (Value.int .i32) ++ ys:=by unfold cO;rw [Int.toNat_natCast,List.set_eq_take_append_cons_drop,if_pos hj];simp
section
variable {ops:Array Oper} {rest:List Oper} {op:Oper} {a:Act} {w:World} {Q:Exit→Act→World→Prop} {K:Act→World→Prop}
theorem Af:(Tryz.prog.info? 21).map (·.size)=some 1:=by kernel_rfl
theorem gk (x y:Operand) (ho:op.op=.store 21 x y) (q j:Nat) (v:Int) (hx:a.eval x=.pointer (some ⟨q,j,none⟩)) (hy:a.eval y=.int .i32 v) (m:List Int) (ys:List Value) (hb:Bk w q 21 (m.map (.int .i32) ++ ys)) (hj:j < m.length) (h:∀w',Bk w' q 21 ((cO m (j:Int) v).map (.int .i32) ++ ys)→w.grownBy w' (some q)→K (a.put op.dst undef) w'):op.wp Tryz.prog a w K Q:=
 au 21 x y ho q j (.int .i32 v) [.int .i32 v] hx hy rfl 21 ((m.take j).map (.int .i32)) [.int .i32 (m[j])] ((m.drop (j+1)).map (.int .i32) ++ ys) (by rw [←uv hj];exact hb) (by simp;omega) rfl Af (by intro v hv;simp at hv;subst hv;rfl)
  fun w' hp=>h w' (by have:=hp.bk;rw [xa m hj] at this;exact this) hp.only
theorem iK (hgd:op.guard=none) (x y:Operand) (ho:op.op=.store 21 x y) (q j:Nat) (v:Int) (hx:a.eval x=.pointer (some ⟨q,j,none⟩)) (hy:a.eval y=.int .i32 v) (m:List Int) (ys:List Value) (hb:Bk w q 21 (m.map (.int .i32) ++ ys)) (hj:j < m.length) (h:∀w',Bk w' q 21 ((cO m (j:Int) v).map (.int .i32) ++ ys)→w.grownBy w' (some q)→wpList Tryz.prog ops Q rest (a.put op.dst undef) w'):wpList Tryz.prog ops Q (op :: rest) a w:=
 wpList_plain hgd fun _ hK=>gk x y ho q j v hx hy m ys hb hj fun w' h1 h2=>hK _ _ (h w' h1 h2)
end
end Go.Proofs.YtllbdpdnpaocnaaGreatDoor
