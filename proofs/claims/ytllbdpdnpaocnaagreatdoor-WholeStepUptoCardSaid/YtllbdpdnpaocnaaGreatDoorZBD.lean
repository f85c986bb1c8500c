/- Part of the proof of WholeStep. -/
import Derived.Test.YtllbdpdnpaocnaaGreatDoorZBC
namespace Go.Proofs.YtllbdpdnpaocnaaGreatDoor
set_option linter.unusedSimpArgs false
set_option linter.unusedVariables false
set_option linter.constructorNameAsVariable false
open Go.RowKit Go.Maps
theorem MsW.made {w:World} {z q C:Nat} {s s' : MsT} {l:List InT} (hs:be l s=s') (ok:eF s) (hb:Bk w z 38 (aF s'.pc (.slice (some ⟨q,0,none⟩) s.mem.length C) s'.halt)) (hy:∃ys,Bk w q 21 (s'.mem.map (.int .i32) ++ ys)):MsW w z q C (be l s):=by subst hs;have h:=oc (l:=l) ok;exact ⟨by rw [h.2];exact hb,hy,h.1⟩
theorem df {w:World} {q j:Nat} {m:List Int} {ys:List Value} (h:Bk w q 21 (m.map (.int .i32) ++ ys)) (hj:j < m.length):w.cell? ⟨q,j,none⟩=some (.int .i32 (br m (j:Int))):=by rw [h.cell,List.getElem?_append_left (by simpa using hj),List.getElem?_map,kN hj];rfl
def AU (z q C:Nat) (s' : MsT) (w:World) (e:Ending) (w' : World):Prop:=e=.returned (.tuple #[])∧MsW w' z q C s'∧Ch2 z q w w'
theorem ii {w:World} {g:Nat} {i:aX} {o a b c:Int} (h:Bk w g 51 (ay i)) (h0:i.op=o) (h1:i.a=a) (h2:i.b=b) (h3:i.c=c):w.cell? ⟨g,0,none⟩=some (.int .i64 o)∧w.cell? ⟨g,1,none⟩=some (.int .i64 a)∧w.cell? ⟨g,2,none⟩=some (.int .i64 b)∧w.cell? ⟨g,3,none⟩=some (.int .i64 c):=by subst h0;subst h1;subst h2;subst h3;exact ⟨h.cell 0,h.cell 1,h.cell 2,h.cell 3⟩
section
variable {ops:Array Oper} {rest:List Oper} {op:Oper} {a:Act} {w0 w w4:World} {Q:Exit→Act→World→Prop} {z q C:Nat} {s:MsT} {l:List InT} {m:List Int} {v:Int} {cs ys:List Value}
theorem bJ (x y:Operand) (ho:op.op=.store 3 x y) (hgd:op.guard=none) (hx:a.eval x=.pointer (some ⟨z,0,none⟩)) (hy:a.eval y=.int .i64 v) (hs:be l s=⟨v,m,s.halt⟩) (ok:eF s) (hne:z≠q) (hz:Bk w z 38 (aF s.pc (.slice (some ⟨q,0,none⟩) s.mem.length C) s.halt)) (hr:∃ys,Bk w q 21 (m.map (.int .i32) ++ ys)) (hc:Ch2 z q w0 w) (h:∀w',MsW w' z q C (be l s)→Ch2 z q w0 w'→wpList Tryz.prog ops Q rest (a.put op.dst undef) w'):wpList Tryz.prog ops Q (op :: rest) a w:=
 ae hgd 3 x y ho z 0 (.int .i64 v) [.int .i64 v] hx hy rfl 38 [] [.int .i64 s.pc] [.slice (some ⟨q,0,none⟩) s.mem.length C,.int .i64 s.halt] (by simpa [aF] using hz) rfl rfl (by kernel_rfl) (by intro v hv;simp at hv;subst hv;rfl)
  fun w' hp=>h w' (MsW.made hs ok (by have:=hp.bk;simpa [aF] using this) (by obtain ⟨ys,hr⟩:=hr;exact ⟨ys,hr.grown hp.only (fun e=>by injection e with e;exact hne e.symm)⟩)) (hc.trans (Ch2.of_only hp.only (.inl rfl)))
theorem hH (x y:Operand) (ho:op.op=.store 3 x y) (hgd:op.guard=none) (hx:a.eval x=.pointer (some ⟨z,2,none⟩)) (hy:a.eval y=.int .i64 v) (hS:MsW w z q C s) (hv:0≤v∧v≤2) (hc:Ch2 z q w0 w) (h:∀w',MsW w' z q C ⟨s.pc,s.mem,v⟩→Ch2 z q w0 w'→wpList Tryz.prog ops Q rest (a.put op.dst undef) w'):wpList Tryz.prog ops Q (op :: rest) a w:=
 ae hgd 3 x y ho z 2 (.int .i64 v) [.int .i64 v] hx hy rfl 38 [.int .i64 s.pc,.slice (some ⟨q,0,none⟩) s.mem.length C] [.int .i64 s.halt] [] (by simpa [aF] using hS.bk) rfl rfl (by kernel_rfl) (by intro v hv;simp at hv;subst hv;rfl)
  fun w' hp=>by obtain ⟨ys,hr⟩:=hS.row;exact h w' ⟨by have:=hp.bk;simpa [aF] using this,⟨ys,hr.grown hp.only (fun e=>by injection e with e;exact hS.ne e.symm)⟩,⟨hS.ok.len,hS.ok.pc,hv,hS.ok.mem⟩⟩ (hc.trans (Ch2.of_only hp.only (.inl rfl)))
theorem hJ (hr:Bk w4 q 21 (m.map (.int .i32) ++ ys)) (hg:w.grownBy w4 (some q)) (hz:Bk w z 38 cs) (hne:z≠q) (hc:Ch2 z q w0 w):Hid (∃ys,Bk w4 q 21 (m.map (.int .i32) ++ ys))∧Hid (Bk w4 z 38 cs)∧Hid (Ch2 z q w0 w4):=
 ⟨⟨ys,hr⟩,hz.grown hg (fun e=>by injection e with e;exact hne e),hc.trans (Ch2.of_only hg (.inr rfl))⟩
end
set_option maxRecDepth 20000 in
set_option maxHeartbeats 2000000 in
theorem xb (w:World) (z q C:Nat) (s:MsT) (c:Sln) (L:List aX) (mb:Nat) (h:MsW w z q C s) (hc:bZ w w.heap.size c L) (hL:cX w) (hm:cZ cG w mb):Calls Tryz.prog 77 #[.pointer (some ⟨z,0,none⟩),.slice c.A c.N c.C,.map (some mb)] w (AU z q C (be (L.map toI) s) w):=by
 have HS0:=aa h;have HN0:=aa (ql w z _ C s c L h.rd hc hL);have HM0:=aa hm;have HLN:Hid ((L.map toI).length=c.N∧c.N≤2048):=⟨by rw [List.length_map];exact hc.len,hc.few⟩;clear h hc hL hm;go_enter Tryz.func77,Tryz.ntmps77;go_wp2_with fail
 refine HN0.mono ?_;rintro e w1 ⟨hnx,hbn⟩;have HB1:=aa hbn;have HS1:=aa (HS0.later hbn);have HC1:=aa (Ch2.of_below (z:=z) (q:=q) hbn);clear hbn HN0;rcases hnx with ⟨i,hi,hok,hn,rfl⟩ | ⟨hn,rfl⟩;rotate_left
 ·have HN:=aa hn;clear hn;go_wp2_with (with_reducible refine ah 51 _ _ rfl ?_)
  refine ak.go ?_;obtain ⟨g,hg⟩:∃q,w1.heap.size=q:=⟨_,rfl⟩;rw [hg];refine an 51 _ _ rfl g hg (ay ⟨0,0,0,0⟩) rfl rfl rfl rfl (aW _) (dN _) ?_;intro w2 hk hbn;have HS2:=aa (HS1.later hbn);have HC2:=aa (HC1.trans (Ch2.of_below hbn));clear hk hbn hg;go_wp2_with (with_reducible refine ah 3 _ _ rfl ?_)
  refine ak.go ?_;refine hH _ _ rfl rfl rfl rfl HS2.out ⟨(by decide:(0:Int)≤2),(by decide:(2:Int)≤2)⟩ HC2.out ?_;intro w9 h1 h2;go_wp2_with fail
  refine bodyPost_end (results_none rfl _ _ _) rfl ?_;refine ⟨rfl,?_,h2⟩;rw [iW HN.out];exact h1
 ·have HI:=aa hi;have HOK:=aa hok;have HN:=aa hn;clear hi hok hn;go_wp2_with (with_reducible refine ah 51 _ _ rfl ?_)
  refine ak.go ?_;obtain ⟨g,hg⟩:∃q,w1.heap.size=q:=⟨_,rfl⟩;rw [hg];refine an 51 _ _ rfl g hg (ay i) rfl rfl rfl rfl (aW i) (dN i) ?_;intro w2 hk hbn;have HS2:=aa (HS1.later hbn);have HC2:=aa (HC1.trans (Ch2.of_below hbn));have HK2:=aa hk;have HM2:=aa (HM0.kept (av (ab HB1.out hbn)) (by simp));have HG:Hid (w1.heap.size=g):=hg;clear hk hbn hg;go_wp2_with (with_reducible refine aj rfl 51 _ rfl g rfl (ay i) 51 HK2.out _ Tryz.underlying51 rfl (aW i) ?_)
  refine (sR w2 z _ C s i _ HS2.rd (bW HN.out)).mono ?_;rintro e w3 ⟨rfl,hbn⟩;have HS3:=aa (HS2.later hbn);have HC3:=aa (HC2.trans (Ch2.of_below hbn));have HK3:=aa (HK2.later hbn);have HM3:=aa (HM2.kept (av hbn) (by simp));clear hbn;obtain ⟨f,hf⟩:∃f,dg (toI i) s.mem=f:=⟨_,rfl⟩;rw [hf];have HF:=aa hf;clear hf;have c0:w3.cell? ⟨g,0,none⟩=some (.int .i64 i.op):=HK3.cell 0;have d0:w3.cell? ⟨z,0,none⟩=some (.int .i64 s.pc):=HS3.bk.cell 0;have d1:w3.cell? ⟨z,1,none⟩=some (.slice (some ⟨q,0,none⟩) s.mem.length C):=HS3.bk.cell 1;have HOP:=aa (gA (bW HN.out));have HRT:=aa (bW HN.out);obtain ⟨ys,hy⟩:=HS3.row;have HY3:=aa hy;clear hy;have hpc1:wrap64 (s.pc+1)=s.pc+1:=IntWalk.wrap64_in _ (by have:=HS3.ok.pc;omega);by_cases hbad:f < 0∧(i.op=15∨i.op=16)
  ·obtain ⟨hf0,hop⟩:=hbad;have HST:Hid (be (L.map toI) s=⟨s.pc,s.mem,2⟩):=by
    show _=_;unfold be;rw [HN.out];simp only;rw [if_pos ⟨by rw [HF.out];exact hf0,hop⟩]
   by_cases h5:i.op=15
   ·go_upto_region 5 with fail
    go_wp2_with (with_reducible refine ah 3 _ _ rfl ?_)
    refine ak.go ?_;refine hH _ _ rfl rfl rfl rfl HS3.out ⟨(by decide:(0:Int)≤2),(by decide:(2:Int)≤2)⟩ HC3.out ?_;intro w9 h1 h2;go_wp2_with fail
    refine bodyPost_end (results_none rfl _ _ _) rfl ?_;refine ⟨rfl,?_,h2⟩;rw [HST.out];exact h1
   ·have h6:i.op=16:=by omega
    go_upto_region 5 with fail
    go_wp2_with (with_reducible refine ah 3 _ _ rfl ?_)
    refine ak.go ?_;refine hH _ _ rfl rfl rfl rfl HS3.out ⟨(by decide:(0:Int)≤2),(by decide:(2:Int)≤2)⟩ HC3.out ?_;intro w9 h1 h2;go_wp2_with fail
    refine bodyPost_end (results_none rfl _ _ _) rfl ?_;refine ⟨rfl,?_,h2⟩;rw [HST.out];exact h1
  ·have HF0:Hid (i.op=15∨i.op=16→0≤f):=fun h=>by
    rcases Int.lt_or_le f 0 with h1 | h1
    ·exact absurd ⟨h1,h⟩ hbad
    ·exact h1
   have HFN:Hid (i.op≠15→i.op≠16→f= -1):=fun h1 h2=>by rw [←HF.out];unfold dg;have e1:(toI i).op≠15:=h1;have e2:(toI i).op≠16:=h2;simp only [e1,e2,if_false];rw [if_neg (by omega)];rfl
   have HSI:=aa (fD HN.out (bW HN.out));clear c0;rcases fX HOP.out with ho | ho | ho | ho | ho | ho | ho | ho | ho | ho | ho | ho
   ·change i.op=0 at ho;obtain rfl:f= -1:=HFN.out (by omega) (by omega);have HCI:=aa (fun wk (hk:Bk wk g 51 (ay i))=>ii hk ho rfl rfl rfl);obtain ⟨c0,c1,c2,c3⟩:=HCI.out _ HK3.out;have ha:i.a=0∨i.a=1:=by
     have:=HRT.out;unfold cw at this;rw [Bool.and_eq_true,Bool.and_eq_true,Bool.and_eq_true,Bool.and_eq_true] at this;have:=this.2.2.2.2;rw [show (toI i).op=0 from ho] at this;exact (by simpa using this:(toI i).a=0∨(toI i).a=1)
    have hw2:wrap64 (1+i.a)=1+i.a:=IntWalk.wrap64_in _ (by omega);have HST:Hid (be (L.map toI) s=⟨s.pc,s.mem,1+i.a⟩):=by show _=_;rw [HSI.out];have e0:(toI i).op=0:=ho;simp [bD,wrI,aK,aU,e0];rfl
    go_upto_region 11 with fail
    go_wp2_with (with_reducible refine ah 3 _ _ rfl ?_)
    refine ak.go ?_;refine hH _ _ rfl rfl rfl rfl HS3.out ⟨(by omega:(0:Int)≤1+i.a),(by omega:1+i.a≤2)⟩ HC3.out ?_;intro w9 h1 h2;go_wp2_with fail
    refine bodyPost_end (results_none rfl _ _ _) rfl ?_;refine ⟨rfl,?_,h2⟩;rw [HST.out];exact h1
   ·change i.op=1 at ho;obtain rfl:f= -1:=HFN.out (by omega) (by omega);obtain ⟨ja,hja,hjn⟩:=bR (cW HRT.out (by show (aU i.op)[0]?=_;rw [ho];rfl));change i.a=_ at hja;have hjl:ja < s.mem.length:=by omega
    have HCI:=aa (fun wk (hk:Bk wk g 51 (ay i))=>ii hk ho hja rfl rfl);obtain ⟨c0,c1,c2,c3⟩:=HCI.out _ HK3.out;have HST:Hid (be (L.map toI) s=⟨s.pc+1,cO s.mem (ja:Int) (cg i.b),s.halt⟩):=by
     show _=_;rw [HSI.out];have e0:(toI i).op=1:=ho;have e1:(toI i).a=ja:=hja;have e9:¬((ja:Int) < 0):=by omega
     first | (simp [bD,wrI,aK,aU,cP,e0,e1,e9];done) | (simp [bD,wrI,aK,aU,cP,e0,e1,e9];rfl)
    go_wp2_with (with_reducible refine ah 21 _ _ rfl ?_)
    refine ak.go ?_;rw [w32];refine iK rfl _ _ rfl q ja (cg i.b) rfl rfl s.mem ys HY3.out hjl ?_;intro w4 hr4 hg4;obtain ⟨HY4,HZ4,HC4⟩:=hJ hr4 hg4 HS3.bk HS3.ne HC3.out;clear hr4 hg4;go_wp2_with (with_reducible refine ah 3 _ _ rfl ?_)
    refine ak.go ?_;try rw [hpc1]
    refine bJ _ _ rfl rfl rfl rfl HST.out HS3.ok HS3.ne HZ4.out HY4.out HC4.out ?_;intro w9 h1 h2;go_wp2_with fail
    refine bodyPost_end (results_none rfl _ _ _) rfl ?_;exact ⟨rfl,h1,h2⟩
   ·change i.op=2 at ho;obtain rfl:f= -1:=HFN.out (by omega) (by omega);obtain ⟨ja,hja,hjn⟩:=bR (cW HRT.out (by show (aU i.op)[0]?=_;rw [ho];rfl));obtain ⟨jb,hjb,hjm⟩:=bR (eN HRT.out (by show (aU i.op)[1]?=_;rw [ho];rfl));change i.a=_ at hja;change i.b=_ at hjb;have hjl:ja < s.mem.length:=by omega
    have hjk:jb < s.mem.length:=by omega
    obtain ⟨v,hv⟩:∃v,br s.mem (jb:Int)=v:=⟨_,rfl⟩;have HCI:=aa (fun wk (hk:Bk wk g 51 (ay i))=>ii hk ho hja hjb rfl);obtain ⟨c0,c1,c2,c3⟩:=HCI.out _ HK3.out;have HST:Hid (be (L.map toI) s=⟨s.pc+1,cO s.mem (ja:Int) v,s.halt⟩):=by
     show _=_;rw [HSI.out];have e0:(toI i).op=2:=ho;have e1:(toI i).a=ja:=hja;have e2:(toI i).b=jb:=hjb;have e9:¬((ja:Int) < 0):=by omega
     first | (simp [bD,wrI,aK,aU,cP,e0,e1,e2,e9,hv];done) | (simp [bD,wrI,aK,aU,cP,e0,e1,e2,e9,hv];rfl)
    go_upto_region 15 with fail
    refine cJ [(9,fun wk=>Bk wk g 51 (ay i)∧Bk wk q 21 (s.mem.map (Value.int .i32) ++ ys)∧cZ cG wk mb)] (by kernel_rfl) ⟨fun _=>⟨HK3.later (ac w3 _ 1),HY3.later (ac w3 _ 1),HM3.kept (av (ac w3 _ 1)) (by simp)⟩,trivial⟩ (fun hHeld=>?_);have HYd:=aa (HY3.later (ac w3 w3.heap.size 1));have HZd:=aa (HS3.bk.later (ac w3 w3.heap.size 1));have HCd:=aa (HC3.trans (Ch2.of_below (ac w3 w3.heap.size 1)));refine tl 0 (fun hHeld=>?_);refine tl 1 (fun hHeld=>?_);refine tl 3 (fun hHeld=>?_);refine tl 4 (fun hHeld=>?_);refine tlv 2 0 rfl rfl (fun w hSw=>by have hcell:=(HCI.out _ hSw.1).2.1;clear hSw;go_simp;try with_reducible rfl) (fun hHeld=>?_);refine tlv 5 0 rfl rfl (fun w hSw=>by have hcell:=(HCI.out _ hSw.1).2.2.1;clear hSw;go_simp;try with_reducible rfl) (fun hHeld=>?_);refine tl 6 (fun hHeld=>?_);refine tlv 7 0 rfl rfl (fun w hSw=>by have hcell:=(hv▸df hSw.2.1 hjk);clear hSw;go_simp;try with_reducible rfl) (fun hHeld=>?_);refine tl 8 (fun hHeld=>?_);refine rlw 9 (fun K hK=>?_);refine gk _ _ rfl q (ja) (v) rfl rfl s.mem ys HYd.out (hjl) ?_;intro w4 hr4 hg4;obtain ⟨HY4,HZ4,HC4⟩:=hJ hr4 hg4 HZd.out HS3.ne HCd.out;clear hr4 hg4;refine sl hK ⟨fun h=>jT h (by kernel_rfl),trivial⟩ (fun hHeld=>?_);clear hK K;refine cU rfl ?_ _;go_wp2_with (with_reducible refine ah 3 _ _ rfl ?_)
    refine ak.go ?_;try rw [hpc1]
    refine bJ _ _ rfl rfl rfl rfl HST.out HS3.ok HS3.ne HZ4.out HY4.out HC4.out ?_;intro w9 h1 h2;go_wp2_with fail
    refine bodyPost_end (results_none rfl _ _ _) rfl ?_;exact ⟨rfl,h1,h2⟩
   ·change 3≤i.op∧i.op≤13 at ho;obtain ⟨jo,hjo⟩:∃jo:Nat,i.op=jo:=⟨i.op.toNat,by omega⟩;have h3o:3≤jo∧jo≤13:=by omega
    have hoo:=ho;clear ho;have ho:=hjo;obtain rfl:f= -1:=HFN.out (by omega) (by omega);obtain ⟨ja,hja,hjn⟩:=bR (cW HRT.out (by show (aU i.op)[0]?=_;rw [fe hoo];rfl));obtain ⟨jb,hjb,hjm⟩:=bR (eN HRT.out (by show (aU i.op)[1]?=_;rw [fe hoo];rfl));obtain ⟨jc,hjc,hjk⟩:=bR (j3 HRT.out (by show (aU i.op)[2]?=_;rw [fe hoo];rfl));change i.a=_ at hja;change i.b=_ at hjb;change i.c=_ at hjc;have hjl:ja < s.mem.length:=by omega
    have hjl2:jb < s.mem.length:=by omega
    have hjl3:jc < s.mem.length:=by omega
    obtain ⟨v,hv⟩:∃v,br s.mem (jb:Int)=v:=⟨_,rfl⟩;obtain ⟨u,hu⟩:∃v,br s.mem (jc:Int)=v:=⟨_,rfl⟩;have HCI:=aa (fun wk (hk:Bk wk g 51 (ay i))=>ii hk ho hja hjb hjc);obtain ⟨c0,c1,c2,c3⟩:=HCI.out _ HK3.out;obtain ⟨fn,hfn,hcf,htw⟩:=AQ h3o.1 h3o.2;obtain ⟨r,hr⟩:∃r,nc (jo:Int) v u=r:=⟨_,rfl⟩;have HTW:=aa (htw v u);rw [hr] at HTW;have HLK:Hid (∀wk,cZ cG wk mb→(Instr.lookup 149 (.map (some mb)) (.int .i64 (jo:Int)) false).run Tryz.prog wk=.ok (.func (.func fn) #[] #[]) wk):=fun wk hk=>hk.look' Tryz.underlying149 (yF wk) (by omega) hfn;have HST:Hid (be (L.map toI) s=⟨s.pc+1,cO s.mem (ja:Int) r,s.halt⟩):=by
     show _=_;rw [HSI.out];have e0:(toI i).op=(jo:Int):=ho;have e1:(toI i).a=ja:=hja;have e2:(toI i).b=jb:=hjb;have e3:(toI i).c=jc:=hjc;have e9:¬((ja:Int) < 0):=by omega
     have b0:(jo:Int)≠0:=by omega
     have b1:(jo:Int)≠1:=by omega
     have b2:(jo:Int)≠2:=by omega
     have b4:(jo:Int)≠14:=by omega
     have b5:(jo:Int)≠15:=by omega
     have b6:(jo:Int)≠16:=by omega
     have b7:(jo:Int)≠17:=by omega
     have b8:(jo:Int)≠18:=by omega
     have b9:(jo:Int)≠19:=by omega
     have ba:(jo:Int)≠20:=by omega
     have bb:(jo:Int)≠21:=by omega
     simp only [bD,wrI,aK,cP,e0,e1,e2,e3,fe (show 3≤(jo:Int)∧(jo:Int)≤13 by omega),b0,b1,b2,b4,b5,b6,b7,b8,b9,ba,bb,if_false,false_and,and_false,hv,hu,hr,e9,false_or,or_false];simp [e9,b6]
    have b0:¬(jo=0):=by omega
    have b1:¬(jo=1):=by omega
    have b2:¬(jo=2):=by omega
    have b4:¬(jo=14):=by omega
    have b5:¬(jo=15):=by omega
    have b6:¬(jo=16):=by omega
    have b7:¬(jo=17):=by omega
    have b8:¬(jo=18):=by omega
    have b9:¬(jo=19):=by omega
    have ba:¬(jo=20):=by omega
    have bb:¬(jo=21):=by omega
    clear h3o hoo hfn htw hr hjo;go_upto_region 9 with fail
    refine cJ [(19,fun wk=>Bk wk g 51 (ay i)∧Bk wk q 21 (s.mem.map (Value.int .i32) ++ ys)∧cZ cG wk mb)] (by kernel_rfl) ⟨fun _=>⟨HK3.later (ac w3 _ 1),HY3.later (ac w3 _ 1),HM3.kept (av (ac w3 _ 1)) (by simp)⟩,trivial⟩ (fun hHeld=>?_);have HYd:=aa (HY3.later (ac w3 w3.heap.size 1));have HZd:=aa (HS3.bk.later (ac w3 w3.heap.size 1));have HCd:=aa (HC3.trans (Ch2.of_below (ac w3 w3.heap.size 1)));refine tl 0 (fun hHeld=>?_);refine tl 1 (fun hHeld=>?_);refine tl 3 (fun hHeld=>?_);refine tl 4 (fun hHeld=>?_);refine tl 7 (fun hHeld=>?_);refine tl 8 (fun hHeld=>?_);refine tl 12 (fun hHeld=>?_);refine tl 13 (fun hHeld=>?_);refine tlv 2 0 rfl rfl (fun w hSw=>by have hcell:=(HCI.out _ hSw.1).2.1;clear hSw;go_simp;try with_reducible rfl) (fun hHeld=>?_);refine tlv 5 0 rfl rfl (fun w hSw=>by have hcell:=(HCI.out _ hSw.1).1;clear hSw;go_simp;try with_reducible rfl) (fun hHeld=>?_);refine tlv 9 0 rfl rfl (fun w hSw=>by have hcell:=(HCI.out _ hSw.1).2.2.1;clear hSw;go_simp;try with_reducible rfl) (fun hHeld=>?_);refine tlv 14 0 rfl rfl (fun w hSw=>by have hcell:=(HCI.out _ hSw.1).2.2.2;clear hSw;go_simp;try with_reducible rfl) (fun hHeld=>?_);refine tlv 6 0 rfl rfl (fun w hSw=>by have hcell:=HLK.out w hSw.2.2;clear hSw;go_simp;try with_reducible rfl) (fun hHeld=>?_);refine tl 10 (fun hHeld=>?_);refine tl 15 (fun hHeld=>?_);refine tlv 11 0 rfl rfl (fun w hSw=>by have hcell:=(hv▸df hSw.2.1 hjl2);clear hSw;go_simp;try with_reducible rfl) (fun hHeld=>?_);refine tlv 16 0 rfl rfl (fun w hSw=>by have hcell:=(hu▸df hSw.2.1 hjl3);clear hSw;go_simp;try with_reducible rfl) (fun hHeld=>?_);refine rl1 17 (fun K hK=>?_);go_simp
    (refine (HTW.out _).mono ?_;rintro e w' ⟨rfl,rfl⟩)
    refine sl hK (hHeld) (fun hHeld=>?_);clear hK K;refine tl 18 (fun hHeld=>?_);refine rlw 19 (fun K hK=>?_);refine gk _ _ rfl q (ja) (r) rfl rfl s.mem ys HYd.out (hjl) ?_;intro w4 hr4 hg4;obtain ⟨HY4,HZ4,HC4⟩:=hJ hr4 hg4 HZd.out HS3.ne HCd.out;clear hr4 hg4;refine sl hK ⟨fun h=>jT h (by kernel_rfl),trivial⟩ (fun hHeld=>?_);clear hK K;refine cU rfl ?_ _;go_wp2_with (with_reducible refine ah 3 _ _ rfl ?_)
    refine ak.go ?_;try rw [hpc1]
    refine bJ _ _ rfl rfl rfl rfl HST.out HS3.ok HS3.ne HZ4.out HY4.out HC4.out ?_;intro w9 h1 h2;go_wp2_with fail
    refine bodyPost_end (results_none rfl _ _ _) rfl ?_;exact ⟨rfl,h1,h2⟩
   ·change i.op=14 at ho;obtain rfl:f= -1:=HFN.out (by omega) (by omega);obtain ⟨ja,hja,hla⟩:=bR (cW HRT.out (by show (aU i.op)[0]?=_;rw [ho];rfl));change i.a=_ at hja;have hna:ja < s.mem.length:=by omega
    obtain ⟨jb,hjb,hlb⟩:=bR (eN HRT.out (by show (aU i.op)[1]?=_;rw [ho];rfl));change i.b=_ at hjb;have hnb:jb < s.mem.length:=by omega
    have HCI:=aa (fun wk (hk:Bk wk g 51 (ay i))=>ii hk ho hja hjb rfl);obtain ⟨c0,c1,c2,c3⟩:=HCI.out _ HK3.out;obtain ⟨v,hv⟩:∃v,br s.mem (jb:Int)=v:=⟨_,rfl⟩;obtain ⟨r,hr⟩:∃r,cN (v == 0)=r:=⟨_,rfl⟩;have HTR:=aa (eE (v == 0));rw [hr] at HTR;have hr' : cN (decide (v=0))=r:=hr;have HST:Hid (be (L.map toI) s=⟨s.pc+1,cO s.mem (ja:Int) r,s.halt⟩):=by
     show _=_;rw [HSI.out];have e0:(toI i).op=14:=ho;have e1:(toI i).a=ja:=hja;have e2:(toI i).b=jb:=hjb;have e9:¬((ja:Int) < 0):=by omega
     first | (simp [bD,wrI,aK,aU,cP,e0,e1,e2,e9,hv,hr'];done) | (simp [bD,wrI,aK,aU,cP,e0,e1,e2,e9,hv,hr'];rfl)
    clear hr hr';go_upto_region 17 with fail
    refine cJ [(11,fun wk=>Bk wk g 51 (ay i)∧Bk wk q 21 (s.mem.map (Value.int .i32) ++ ys)∧cZ cG wk mb)] (by kernel_rfl) ⟨fun _=>⟨HK3.later (ac w3 _ 1),HY3.later (ac w3 _ 1),HM3.kept (av (ac w3 _ 1)) (by simp)⟩,trivial⟩ (fun hHeld=>?_);have HYd:=aa (HY3.later (ac w3 w3.heap.size 1));have HZd:=aa (HS3.bk.later (ac w3 w3.heap.size 1));have HCd:=aa (HC3.trans (Ch2.of_below (ac w3 w3.heap.size 1)));refine tl 0 (fun hHeld=>?_);refine tl 1 (fun hHeld=>?_);refine tl 3 (fun hHeld=>?_);refine tl 4 (fun hHeld=>?_);refine tlv 2 0 rfl rfl (fun w hSw=>by have hcell:=(HCI.out _ hSw.1).2.1;clear hSw;go_simp;try with_reducible rfl) (fun hHeld=>?_);refine tlv 5 0 rfl rfl (fun w hSw=>by have hcell:=(HCI.out _ hSw.1).2.2.1;clear hSw;go_simp;try with_reducible rfl) (fun hHeld=>?_);refine tl 6 (fun hHeld=>?_);refine tlv 7 0 rfl rfl (fun w hSw=>by have hcell:=(hv▸df hSw.2.1 hnb);clear hSw;go_simp;try with_reducible rfl) (fun hHeld=>?_);refine tl 8 (fun hHeld=>?_);refine rl1 9 (fun K hK=>?_);go_simp
    (refine (HTR.out _).mono ?_;rintro e w' ⟨rfl,rfl⟩)
    refine sl hK (hHeld) (fun hHeld=>?_);clear hK K;refine tl 10 (fun hHeld=>?_);refine rlw 11 (fun K hK=>?_);refine gk _ _ rfl q (ja) (r) rfl rfl s.mem ys HYd.out (hna) ?_;intro w4 hr4 hg4;obtain ⟨HY4,HZ4,HC4⟩:=hJ hr4 hg4 HZd.out HS3.ne HCd.out;clear hr4 hg4;refine sl hK ⟨fun h=>jT h (by kernel_rfl),trivial⟩ (fun hHeld=>?_);clear hK K;refine cU rfl ?_ _;go_wp2_with (with_reducible refine ah 3 _ _ rfl ?_)
    refine ak.go ?_;try rw [hpc1]
    refine bJ _ _ rfl rfl rfl rfl HST.out HS3.ok HS3.ne HZ4.out HY4.out HC4.out ?_;intro w9 h1 h2;go_wp2_with fail
    refine bodyPost_end (results_none rfl _ _ _) rfl ?_;exact ⟨rfl,h1,h2⟩
   ·change i.op=15 at ho;obtain ⟨ja,hja,hla⟩:=bR (cW HRT.out (by show (aU i.op)[0]?=_;rw [ho];rfl));change i.a=_ at hja;have hna:ja < s.mem.length:=by omega
    have HCI:=aa (fun wk (hk:Bk wk g 51 (ay i))=>ii hk ho hja rfl rfl);obtain ⟨c0,c1,c2,c3⟩:=HCI.out _ HK3.out;have hf0:=HF0.out (.inl ho);have hfl:=qX (toI i) s.mem;rw [HF.out] at hfl;obtain ⟨jf,hjf⟩:∃jf:Nat,f=jf:=⟨f.toNat,by omega⟩;subst hjf;have hnf:jf < s.mem.length:=by omega
    obtain ⟨v,hv⟩:∃v,br s.mem (jf:Int)=v:=⟨_,rfl⟩;have HST:Hid (be (L.map toI) s=⟨s.pc+1,cO s.mem (ja:Int) v,s.halt⟩):=by
     show _=_;rw [HSI.out];have e0:(toI i).op=15:=ho;have e1:(toI i).a=ja:=hja;have e9:¬((ja:Int) < 0):=by omega
     have e8:=HF.out;have e7:¬((jf:Int) < 0):=by omega
     first | (simp [bD,wrI,aK,aU,cP,e0,e1,e9,e8,e7,hv];done) | (simp [bD,wrI,aK,aU,cP,e0,e1,e9,e8,e7,hv];rfl)
    clear hfl hf0;go_upto_region 19 with fail
    refine cJ [(8,fun wk=>Bk wk g 51 (ay i)∧Bk wk q 21 (s.mem.map (Value.int .i32) ++ ys)∧cZ cG wk mb)] (by kernel_rfl) ⟨fun _=>⟨HK3.later (ac w3 _ 1),HY3.later (ac w3 _ 1),HM3.kept (av (ac w3 _ 1)) (by simp)⟩,trivial⟩ (fun hHeld=>?_);have HYd:=aa (HY3.later (ac w3 w3.heap.size 1));have HZd:=aa (HS3.bk.later (ac w3 w3.heap.size 1));have HCd:=aa (HC3.trans (Ch2.of_below (ac w3 w3.heap.size 1)));refine tl 0 (fun hHeld=>?_);refine tl 1 (fun hHeld=>?_);refine tl 3 (fun hHeld=>?_);refine tl 4 (fun hHeld=>?_);refine tlv 2 0 rfl rfl (fun w hSw=>by have hcell:=(HCI.out _ hSw.1).2.1;clear hSw;go_simp;try with_reducible rfl) (fun hHeld=>?_);refine tl 5 (fun hHeld=>?_);refine tlv 6 0 rfl rfl (fun w hSw=>by have hcell:=(hv▸df hSw.2.1 hnf);clear hSw;go_simp;try with_reducible rfl) (fun hHeld=>?_);refine tl 7 (fun hHeld=>?_);refine rlw 8 (fun K hK=>?_);refine gk _ _ rfl q (ja) (v) rfl rfl s.mem ys HYd.out (hna) ?_;intro w4 hr4 hg4;obtain ⟨HY4,HZ4,HC4⟩:=hJ hr4 hg4 HZd.out HS3.ne HCd.out;clear hr4 hg4;refine sl hK ⟨fun h=>jT h (by kernel_rfl),trivial⟩ (fun hHeld=>?_);clear hK K;refine cU rfl ?_ _;go_wp2_with (with_reducible refine ah 3 _ _ rfl ?_)
    refine ak.go ?_;try rw [hpc1]
    refine bJ _ _ rfl rfl rfl rfl HST.out HS3.ok HS3.ne HZ4.out HY4.out HC4.out ?_;intro w9 h1 h2;go_wp2_with fail
    refine bodyPost_end (results_none rfl _ _ _) rfl ?_;exact ⟨rfl,h1,h2⟩
   ·change i.op=16 at ho;obtain ⟨jc,hjc,hlc⟩:=bR (j3 HRT.out (by show (aU i.op)[2]?=_;rw [ho];rfl));change i.c=_ at hjc;have hnc:jc < s.mem.length:=by omega
    have HCI:=aa (fun wk (hk:Bk wk g 51 (ay i))=>ii hk ho rfl rfl hjc);obtain ⟨c0,c1,c2,c3⟩:=HCI.out _ HK3.out;have hf0:=HF0.out (.inr ho);have hfl:=qX (toI i) s.mem;rw [HF.out] at hfl;obtain ⟨jf,hjf⟩:∃jf:Nat,f=jf:=⟨f.toNat,by omega⟩;subst hjf;have hnf:jf < s.mem.length:=by omega
    obtain ⟨v,hv⟩:∃v,br s.mem (jc:Int)=v:=⟨_,rfl⟩;have HST:Hid (be (L.map toI) s=⟨s.pc+1,cO s.mem (jf:Int) v,s.halt⟩):=by
     show _=_;rw [HSI.out];have e0:(toI i).op=16:=ho;have e3:(toI i).c=jc:=hjc;have e8:=HF.out;have e7:¬((jf:Int) < 0):=by omega
     first | (simp [bD,wrI,aK,aU,cP,e0,e3,e8,e7,hv];done) | (simp [bD,wrI,aK,aU,cP,e0,e3,e8,e7,hv];rfl)
    clear hfl hf0;have cv:w3.cell? ⟨q,jc,none⟩=some (.int .i32 v):=by rw [←hv];exact df HY3.out hnc
    go_wp2_with (with_reducible refine ah 21 _ _ rfl ?_)
    refine ak.go ?_;refine iK rfl _ _ rfl q jf v rfl rfl s.mem ys HY3.out hnf ?_;intro w4 hr4 hg4;obtain ⟨HY4,HZ4,HC4⟩:=hJ hr4 hg4 HS3.bk HS3.ne HC3.out;clear hr4 hg4;clear cv;go_wp2_with (with_reducible refine ah 3 _ _ rfl ?_)
    refine ak.go ?_;try rw [hpc1]
    refine bJ _ _ rfl rfl rfl rfl HST.out HS3.ok HS3.ne HZ4.out HY4.out HC4.out ?_;intro w9 h1 h2;go_wp2_with fail
    refine bodyPost_end (results_none rfl _ _ _) rfl ?_;exact ⟨rfl,h1,h2⟩
   ·change i.op=17 at ho;obtain rfl:f= -1:=HFN.out (by omega) (by omega);obtain ⟨ja,hja,hla⟩:=bR (cW HRT.out (by show (aU i.op)[0]?=_;rw [ho];rfl));change i.a=_ at hja;have hna:ja < s.mem.length:=by omega
    have HCI:=aa (fun wk (hk:Bk wk g 51 (ay i))=>ii hk ho hja rfl rfl);obtain ⟨c0,c1,c2,c3⟩:=HCI.out _ HK3.out;obtain ⟨v,hv⟩:∃v,br s.mem (ja:Int)=v:=⟨_,rfl⟩;obtain ⟨r,hr⟩:∃r,min (max v (IntKind.i32.wrap i.b)) (IntKind.i32.wrap i.c)=r:=⟨_,rfl⟩;have hr' : min (max v (cg i.b)) (cg i.c)=r:=by rw [←hr,(IntWalk.i32_left i.b).trans (w32 _),(IntWalk.i32_left i.c).trans (w32 _)]
    have HST:Hid (be (L.map toI) s=⟨s.pc+1,cO s.mem (ja:Int) r,s.halt⟩):=by
     show _=_;rw [HSI.out];have e0:(toI i).op=17:=ho;have e1:(toI i).a=ja:=hja;have e9:¬((ja:Int) < 0):=by omega
     have e2:(toI i).b=i.b:=rfl;have e3:(toI i).c=i.c:=rfl;first | (simp [bD,wrI,aK,aU,cP,e0,e1,e9,hv,e2,e3,hr'];done) | (simp [bD,wrI,aK,aU,cP,e0,e1,e9,hv,e2,e3,hr'];rfl)
    go_upto_region 23 with fail
    refine cJ [(17,fun wk=>Bk wk g 51 (ay i)∧Bk wk q 21 (s.mem.map (Value.int .i32) ++ ys)∧cZ cG wk mb)] (by kernel_rfl) ⟨fun _=>⟨HK3.later (ac w3 _ 1),HY3.later (ac w3 _ 1),HM3.kept (av (ac w3 _ 1)) (by simp)⟩,trivial⟩ (fun hHeld=>?_);have HYd:=aa (HY3.later (ac w3 w3.heap.size 1));have HZd:=aa (HS3.bk.later (ac w3 w3.heap.size 1));have HCd:=aa (HC3.trans (Ch2.of_below (ac w3 w3.heap.size 1)));refine tl 0 (fun hHeld=>?_);refine tl 1 (fun hHeld=>?_);refine tl 3 (fun hHeld=>?_);refine tl 4 (fun hHeld=>?_);refine tl 8 (fun hHeld=>?_);refine tl 12 (fun hHeld=>?_);refine tlv 2 0 rfl rfl (fun w hSw=>by have hcell:=(HCI.out _ hSw.1).2.1;clear hSw;go_simp;try with_reducible rfl) (fun hHeld=>?_);refine tlv 5 0 rfl rfl (fun w hSw=>by have hcell:=(HCI.out _ hSw.1).2.1;clear hSw;go_simp;try with_reducible rfl) (fun hHeld=>?_);refine tlv 9 0 rfl rfl (fun w hSw=>by have hcell:=(HCI.out _ hSw.1).2.2.1;clear hSw;go_simp;try with_reducible rfl) (fun hHeld=>?_);refine tlv 13 0 rfl rfl (fun w hSw=>by have hcell:=(HCI.out _ hSw.1).2.2.2;clear hSw;go_simp;try with_reducible rfl) (fun hHeld=>?_);refine tl 6 (fun hHeld=>?_);refine tl 10 (fun hHeld=>?_);refine tl 14 (fun hHeld=>?_);refine tlv 7 0 rfl rfl (fun w hSw=>by have hcell:=(hv▸df hSw.2.1 hna);clear hSw;go_simp;try with_reducible rfl) (fun hHeld=>?_);refine tl 11 (fun hHeld=>?_);refine tl 15 (fun hHeld=>?_);refine tl 16 (fun hHeld=>?_);refine rlw 17 (fun K hK=>?_);refine gk _ _ rfl q (ja) (r) rfl rfl s.mem ys HYd.out (hna) ?_;intro w4 hr4 hg4;obtain ⟨HY4,HZ4,HC4⟩:=hJ hr4 hg4 HZd.out HS3.ne HCd.out;clear hr4 hg4;refine sl hK ⟨fun h=>jT h (by kernel_rfl),trivial⟩ (fun hHeld=>?_);clear hK K;refine cU rfl ?_ _;go_wp2_with (with_reducible refine ah 3 _ _ rfl ?_)
    refine ak.go ?_;try rw [hpc1]
    refine bJ _ _ rfl rfl rfl rfl HST.out HS3.ok HS3.ne HZ4.out HY4.out HC4.out ?_;intro w9 h1 h2;go_wp2_with fail
    refine bodyPost_end (results_none rfl _ _ _) rfl ?_;exact ⟨rfl,h1,h2⟩
   ·change i.op=18 at ho;obtain rfl:f= -1:=HFN.out (by omega) (by omega);obtain ⟨ja,hja,hla⟩:=bR (cW HRT.out (by show (aU i.op)[0]?=_;rw [ho];rfl));change i.a=_ at hja;have hna:ja < s.mem.length:=by omega
    obtain ⟨jb,hjb,hlb⟩:=bR (eN HRT.out (by show (aU i.op)[1]?=_;rw [ho];rfl));change i.b=_ at hjb;have hnb:jb < s.mem.length:=by omega
    have HCI:=aa (fun wk (hk:Bk wk g 51 (ay i))=>ii hk ho hja hjb rfl);obtain ⟨c0,c1,c2,c3⟩:=HCI.out _ HK3.out;obtain ⟨v,hv⟩:∃v,br s.mem (jb:Int)=v:=⟨_,rfl⟩;have hvr:=lf (m:=s.mem) (fun x hx=>HS3.ok.mem x hx) (jb:Int);rw [hv] at hvr;have hwv:IntKind.i64.wrap v=v:=IntWalk.i64_in _ (by obtain ⟨a1,a2⟩:=hvr;omega);obtain ⟨x,hx⟩:∃x,decide (0≤v∧v < i.c)=x:=⟨_,rfl⟩;obtain ⟨r,hr⟩:∃r,cN x=r:=⟨_,rfl⟩;have HTR:=aa (eE x);rw [hr] at HTR;have HST:Hid (be (L.map toI) s=⟨s.pc+1,cO s.mem (ja:Int) r,s.halt⟩):=by
     show _=_;rw [HSI.out];have e0:(toI i).op=18:=ho;have e1:(toI i).a=ja:=hja;have e2:(toI i).b=jb:=hjb;have e9:¬((ja:Int) < 0):=by omega
     have e3:(toI i).c=i.c:=rfl;have e4:cN (decide (0≤v) && decide (v < i.c))=r:=by rw [←Bool.decide_and,hx,hr]
     first | (simp [bD,wrI,aK,aU,cP,e0,e1,e2,e9,hv,e3,e4];done) | (simp [bD,wrI,aK,aU,cP,e0,e1,e2,e9,hv,e3,e4];rfl)
    have HX:=aa hx;clear hr hx hvr;go_upto_region 25 with fail
    refine cJ [(22,fun wk=>Bk wk g 51 (ay i)∧Bk wk q 21 (s.mem.map (Value.int .i32) ++ ys)∧cZ cG wk mb)] (by kernel_rfl) ⟨fun _=>⟨HK3.later (ac w3 _ 1),HY3.later (ac w3 _ 1),HM3.kept (av (ac w3 _ 1)) (by simp)⟩,trivial⟩ (fun hHeld=>?_);have HYd:=aa (HY3.later (ac w3 w3.heap.size 1));have HZd:=aa (HS3.bk.later (ac w3 w3.heap.size 1));have HCd:=aa (HC3.trans (Ch2.of_below (ac w3 w3.heap.size 1)));refine tl 0 (fun hHeld=>?_);refine tl 1 (fun hHeld=>?_);refine tl 3 (fun hHeld=>?_);refine tl 4 (fun hHeld=>?_);refine tlv 2 0 rfl rfl (fun w hSw=>by have hcell:=(HCI.out _ hSw.1).2.1;clear hSw;go_simp;try with_reducible rfl) (fun hHeld=>?_);refine tlv 5 0 rfl rfl (fun w hSw=>by have hcell:=(HCI.out _ hSw.1).2.2.1;clear hSw;go_simp;try with_reducible rfl) (fun hHeld=>?_);refine tl 6 (fun hHeld=>?_);refine tlv 7 0 rfl rfl (fun w hSw=>by have hcell:=(hv▸df hSw.2.1 hnb);clear hSw;go_simp;try with_reducible rfl) (fun hHeld=>?_);cases hd:decide (0≤v) with
    | true=>
     have hxe:decide (v < i.c)=x:=by
      rw [←HX.out];have:0≤v:=by simpa using hd
      simp [this]
     refine tl 8 (fun hHeld=>?_);refine tl 9 (fun hHeld=>?_);refine tl 10 (fun hHeld=>?_);refine tl 11 (fun hHeld=>?_);refine tl 16 (fun hHeld=>?_);refine tlv 12 0 rfl rfl (fun w hSw=>by have hcell:=(HCI.out _ hSw.1).2.2.1;clear hSw;go_simp;try with_reducible rfl) (fun hHeld=>?_);refine tlv 17 0 rfl rfl (fun w hSw=>by have hcell:=(HCI.out _ hSw.1).2.2.2;clear hSw;go_simp;try with_reducible rfl) (fun hHeld=>?_);refine tl 13 (fun hHeld=>?_);refine tlv 14 0 rfl rfl (fun w hSw=>by have hcell:=(hv▸df hSw.2.1 hnb);clear hSw;go_simp;try with_reducible rfl) (fun hHeld=>?_);refine tl 15 (fun hHeld=>?_);refine tl 18 (fun hHeld=>?_);refine tl 19 (fun hHeld=>?_);refine rl1 20 (fun K hK=>?_);go_simp
     (refine (HTR.out _).mono ?_;rintro e w' ⟨rfl,rfl⟩)
     refine sl hK (hHeld) (fun hHeld=>?_);clear hK K;refine tl 21 (fun hHeld=>?_);refine rlw 22 (fun K hK=>?_);refine gk _ _ rfl q (ja) (r) rfl rfl s.mem ys HYd.out (hna) ?_;intro w4 hr4 hg4;obtain ⟨HY4,HZ4,HC4⟩:=hJ hr4 hg4 HZd.out HS3.ne HCd.out;clear hr4 hg4;refine sl hK ⟨fun h=>jT h (by kernel_rfl),trivial⟩ (fun hHeld=>?_);clear hK K;refine cU rfl ?_ _;go_wp2_with (with_reducible refine ah 3 _ _ rfl ?_)
     refine ak.go ?_;try rw [hpc1]
     refine bJ _ _ rfl rfl rfl rfl HST.out HS3.ok HS3.ne HZ4.out HY4.out HC4.out ?_;intro w9 h1 h2;go_wp2_with fail
     refine bodyPost_end (results_none rfl _ _ _) rfl ?_;exact ⟨rfl,h1,h2⟩
    | false=>
     obtain rfl:x=false:=by
      rw [←HX.out];have:¬(0≤v):=by simpa using hd
      simp [this]
     refine tl 8 (fun hHeld=>?_);refine tl 9 (fun hHeld=>?_);refine tl0 10 (fun hHeld=>?_);refine tl0 11 (fun hHeld=>?_);refine tl0 12 (fun hHeld=>?_);refine tl0 13 (fun hHeld=>?_);refine tl0 14 (fun hHeld=>?_);refine tl0 15 (fun hHeld=>?_);refine tl0 16 (fun hHeld=>?_);refine tl0 17 (fun hHeld=>?_);refine tl0 18 (fun hHeld=>?_);refine tl 19 (fun hHeld=>?_);refine rl1 20 (fun K hK=>?_);go_simp
     (refine (HTR.out _).mono ?_;rintro e w' ⟨rfl,rfl⟩)
     refine sl hK (hHeld) (fun hHeld=>?_);clear hK K;refine tl 21 (fun hHeld=>?_);refine rlw 22 (fun K hK=>?_);refine gk _ _ rfl q (ja) (r) rfl rfl s.mem ys HYd.out (hna) ?_;intro w4 hr4 hg4;obtain ⟨HY4,HZ4,HC4⟩:=hJ hr4 hg4 HZd.out HS3.ne HCd.out;clear hr4 hg4;refine sl hK ⟨fun h=>jT h (by kernel_rfl),trivial⟩ (fun hHeld=>?_);clear hK K;refine cU rfl ?_ _;go_wp2_with (with_reducible refine ah 3 _ _ rfl ?_)
     refine ak.go ?_;try rw [hpc1]
     refine bJ _ _ rfl rfl rfl rfl HST.out HS3.ok HS3.ne HZ4.out HY4.out HC4.out ?_;intro w9 h1 h2;go_wp2_with fail
     refine bodyPost_end (results_none rfl _ _ _) rfl ?_;exact ⟨rfl,h1,h2⟩
   ·change i.op=19 at ho;obtain rfl:f= -1:=HFN.out (by omega) (by omega);have HCI:=aa (fun wk (hk:Bk wk g 51 (ay i))=>ii hk ho rfl rfl rfl);obtain ⟨c0,c1,c2,c3⟩:=HCI.out _ HK3.out;have HST:Hid (be (L.map toI) s=⟨i.a,s.mem,s.halt⟩):=by
     show _=_;rw [HSI.out];have e0:(toI i).op=19:=ho;have e1:(toI i).a=i.a:=rfl;first | (simp [bD,wrI,aK,aU,cP,e0,e1];done) | (simp [bD,wrI,aK,aU,cP,e0,e1];rfl)
    have HZ4:=aa HS3.bk;have HC4:=aa HC3.out;have HY4:Hid (∃ys,Bk w3 q 21 (s.mem.map (Value.int .i32) ++ ys)):=⟨ys,HY3.out⟩;go_wp2_with (with_reducible refine ah 3 _ _ rfl ?_)
    refine ak.go ?_;try rw [hpc1]
    refine bJ _ _ rfl rfl rfl rfl HST.out HS3.ok HS3.ne HZ4.out HY4.out HC4.out ?_;intro w9 h1 h2;go_wp2_with fail
    refine bodyPost_end (results_none rfl _ _ _) rfl ?_;exact ⟨rfl,h1,h2⟩
   ·change i.op=20 at ho;obtain rfl:f= -1:=HFN.out (by omega) (by omega);obtain ⟨jb,hjb,hlb⟩:=bR (eN HRT.out (by show (aU i.op)[1]?=_;rw [ho];rfl));change i.b=_ at hjb;have hnb:jb < s.mem.length:=by omega
    have HCI:=aa (fun wk (hk:Bk wk g 51 (ay i))=>ii hk ho rfl hjb rfl);obtain ⟨c0,c1,c2,c3⟩:=HCI.out _ HK3.out;obtain ⟨v,hv⟩:∃v,br s.mem (jb:Int)=v:=⟨_,rfl⟩;go_upto_region 30 with fail
    refine wp_region_held_drew (S:=fun wk=>Bk wk g 51 (ay i)∧Bk wk q 21 (s.mem.map (Value.int .i32) ++ ys)) (by kernel_rfl) ⟨HK3.later (ac w3 _ 1),HY3.later (ac w3 _ 1)⟩ (fun hHeld=>?_);obtain ⟨wd,hwd⟩:∃wa,w3.drew=wa:=⟨_,rfl⟩;have hbd:Below w3.heap.size w3 wd:=hwd▸ac w3 w3.heap.size 1;rw [hwd] at hHeld ⊢;have HZ4:=aa (HS3.bk.later hbd);have HC4:=aa (HC3.trans (Ch2.of_below hbd));have HY4:Hid (∃ys,Bk wd q 21 (s.mem.map (Value.int .i32) ++ ys)):=⟨ys,HY3.later hbd⟩;have c1:=(HCI.out _ (HK3.later hbd)).2.1;clear hwd hbd;cases hz:(v == 0) with
    | true=>
     have HST:Hid (be (L.map toI) s=⟨i.a,s.mem,s.halt⟩):=by
      show _=_;rw [HSI.out];have e0:(toI i).op=20:=ho;have e2:(toI i).b=jb:=hjb;have e1:(toI i).a=i.a:=rfl;have ez:decide (v=0)=true:=hz;have ez' : v=0:=by simpa using ez
      first | (simp [bD,wrI,aK,aU,cP,e0,e2,e1,hv,ez'];done) | (simp [bD,wrI,aK,aU,cP,e0,e2,e1,hv,ez'];rfl)
     refine tk 0 ?_;refine tk 1 ?_;refine tk 6 ?_;refine tkv 2 rfl (fun w hSw=>by have hcell:=(HCI.out _ hSw.1).2.2.1;clear hSw;go_simp;try with_reducible rfl) ?_;refine tkv 7 rfl (fun w hSw=>by have hcell:=(HCI.out _ hSw.1).1;clear hSw;go_simp;try with_reducible rfl) ?_;refine tk 3 ?_;refine tk 8 ?_;refine tkv 4 rfl (fun w hSw=>by have hcell:=(hv▸df hSw.2 hnb);clear hSw;go_simp;try with_reducible rfl) ?_;refine tk 5 ?_;refine tk 9 ?_;refine wpAnyH_done rfl ?_ _;go_wp2_with (with_reducible refine ah 3 _ _ rfl ?_)
     refine ak.go ?_;try rw [hpc1]
     refine bJ _ _ rfl rfl rfl rfl HST.out HS3.ok HS3.ne HZ4.out HY4.out HC4.out ?_;intro w9 h1 h2;go_wp2_with fail
     refine bodyPost_end (results_none rfl _ _ _) rfl ?_;exact ⟨rfl,h1,h2⟩
    | false=>
     have HST:Hid (be (L.map toI) s=⟨s.pc+1,s.mem,s.halt⟩):=by
      show _=_;rw [HSI.out];have e0:(toI i).op=20:=ho;have e2:(toI i).b=jb:=hjb;have e1:(toI i).a=i.a:=rfl;have ez:decide (v=0)=false:=hz;have ez' : ¬v=0:=by simpa using ez
      first | (simp [bD,wrI,aK,aU,cP,e0,e2,e1,hv,ez'];done) | (simp [bD,wrI,aK,aU,cP,e0,e2,e1,hv,ez'];rfl)
     refine tk 0 ?_;refine tk 1 ?_;refine tk 6 ?_;refine tkv 2 rfl (fun w hSw=>by have hcell:=(HCI.out _ hSw.1).2.2.1;clear hSw;go_simp;try with_reducible rfl) ?_;refine tkv 7 rfl (fun w hSw=>by have hcell:=(HCI.out _ hSw.1).1;clear hSw;go_simp;try with_reducible rfl) ?_;refine tk 3 ?_;refine tk 8 ?_;refine tkv 4 rfl (fun w hSw=>by have hcell:=(hv▸df hSw.2 hnb);clear hSw;go_simp;try with_reducible rfl) ?_;refine tk 5 ?_;refine tk 9 ?_;refine wpAnyH_done rfl ?_ _;go_wp2_with (with_reducible refine ah 3 _ _ rfl ?_)
     refine ak.go ?_;try rw [hpc1]
     refine bJ _ _ rfl rfl rfl rfl HST.out HS3.ok HS3.ne HZ4.out HY4.out HC4.out ?_;intro w9 h1 h2;go_wp2_with fail
     refine bodyPost_end (results_none rfl _ _ _) rfl ?_;exact ⟨rfl,h1,h2⟩
   ·change i.op=21 at ho;obtain rfl:f= -1:=HFN.out (by omega) (by omega);obtain ⟨jb,hjb,hlb⟩:=bR (eN HRT.out (by show (aU i.op)[1]?=_;rw [ho];rfl));change i.b=_ at hjb;have hnb:jb < s.mem.length:=by omega
    have HCI:=aa (fun wk (hk:Bk wk g 51 (ay i))=>ii hk ho rfl hjb rfl);obtain ⟨c0,c1,c2,c3⟩:=HCI.out _ HK3.out;obtain ⟨v,hv⟩:∃v,br s.mem (jb:Int)=v:=⟨_,rfl⟩;go_upto_region 30 with fail
    refine wp_region_held_drew (S:=fun wk=>Bk wk g 51 (ay i)∧Bk wk q 21 (s.mem.map (Value.int .i32) ++ ys)) (by kernel_rfl) ⟨HK3.later (ac w3 _ 1),HY3.later (ac w3 _ 1)⟩ (fun hHeld=>?_);obtain ⟨wd,hwd⟩:∃wa,w3.drew=wa:=⟨_,rfl⟩;have hbd:Below w3.heap.size w3 wd:=hwd▸ac w3 w3.heap.size 1;rw [hwd] at hHeld ⊢;have HZ4:=aa (HS3.bk.later hbd);have HC4:=aa (HC3.trans (Ch2.of_below hbd));have HY4:Hid (∃ys,Bk wd q 21 (s.mem.map (Value.int .i32) ++ ys)):=⟨ys,HY3.later hbd⟩;have c1:=(HCI.out _ (HK3.later hbd)).2.1;clear hwd hbd;cases hz:(v == 0) with
    | true=>
     have HST:Hid (be (L.map toI) s=⟨s.pc+1,s.mem,s.halt⟩):=by
      show _=_;rw [HSI.out];have e0:(toI i).op=21:=ho;have e2:(toI i).b=jb:=hjb;have e1:(toI i).a=i.a:=rfl;have ez:decide (v=0)=true:=hz;have ez' : v=0:=by simpa using ez
      first | (simp [bD,wrI,aK,aU,cP,e0,e2,e1,hv,ez'];done) | (simp [bD,wrI,aK,aU,cP,e0,e2,e1,hv,ez'];rfl)
     refine tk 0 ?_;refine tk 1 ?_;refine tk 6 ?_;refine tkv 2 rfl (fun w hSw=>by have hcell:=(HCI.out _ hSw.1).2.2.1;clear hSw;go_simp;try with_reducible rfl) ?_;refine tkv 7 rfl (fun w hSw=>by have hcell:=(HCI.out _ hSw.1).1;clear hSw;go_simp;try with_reducible rfl) ?_;refine tk 3 ?_;refine tk 8 ?_;refine tkv 4 rfl (fun w hSw=>by have hcell:=(hv▸df hSw.2 hnb);clear hSw;go_simp;try with_reducible rfl) ?_;refine tk 5 ?_;refine tk 9 ?_;refine wpAnyH_done rfl ?_ _;go_wp2_with (with_reducible refine ah 3 _ _ rfl ?_)
     refine ak.go ?_;try rw [hpc1]
     refine bJ _ _ rfl rfl rfl rfl HST.out HS3.ok HS3.ne HZ4.out HY4.out HC4.out ?_;intro w9 h1 h2;go_wp2_with fail
     refine bodyPost_end (results_none rfl _ _ _) rfl ?_;exact ⟨rfl,h1,h2⟩
    | false=>
     have HST:Hid (be (L.map toI) s=⟨i.a,s.mem,s.halt⟩):=by
      show _=_;rw [HSI.out];have e0:(toI i).op=21:=ho;have e2:(toI i).b=jb:=hjb;have e1:(toI i).a=i.a:=rfl;have ez:decide (v=0)=false:=hz;have ez' : ¬v=0:=by simpa using ez
      first | (simp [bD,wrI,aK,aU,cP,e0,e2,e1,hv,ez'];done) | (simp [bD,wrI,aK,aU,cP,e0,e2,e1,hv,ez'];rfl)
     refine tk 0 ?_;refine tk 1 ?_;refine tk 6 ?_;refine tkv 2 rfl (fun w hSw=>by have hcell:=(HCI.out _ hSw.1).2.2.1;clear hSw;go_simp;try with_reducible rfl) ?_;refine tkv 7 rfl (fun w hSw=>by have hcell:=(HCI.out _ hSw.1).1;clear hSw;go_simp;try with_reducible rfl) ?_;refine tk 3 ?_;refine tk 8 ?_;refine tkv 4 rfl (fun w hSw=>by have hcell:=(hv▸df hSw.2 hnb);clear hSw;go_simp;try with_reducible rfl) ?_;refine tk 5 ?_;refine tk 9 ?_;refine wpAnyH_done rfl ?_ _;go_wp2_with (with_reducible refine ah 3 _ _ rfl ?_)
     refine ak.go ?_;try rw [hpc1]
     refine bJ _ _ rfl rfl rfl rfl HST.out HS3.ok HS3.ne HZ4.out HY4.out HC4.out ?_;intro w9 h1 h2;go_wp2_with fail
     refine bodyPost_end (results_none rfl _ _ _) rfl ?_;exact ⟨rfl,h1,h2⟩
end Go.Proofs.YtllbdpdnpaocnaaGreatDoor
