/- Part of the proof of WholeStep. -/
import Derived.Test.YtllbdpdnpaocnaaGreatDoorZAZ
import Derived.Laws.CopyOwn
namespace Go.Proofs.YtllbdpdnpaocnaaGreatDoor
set_option linter.unusedSimpArgs false
set_option linter.unusedVariables false
set_option linter.constructorNameAsVariable false
open Go.RowKit Go.Maps
def AB (p:PgT) (e:Ending) (w:World):Prop:=∃(v:Value) (b:Bool),e=.returned (.tuple #[v,.bool b])∧
 (b=true→∃p' w1 gc c fL,v=.pointer (some ⟨gc,0,none⟩)∧CpS w1 w gc c p' fL 5∧(fL.length:Int)=bI p'.vrL∧c.F.N=fL.length∧c.P.N=p'.pa.N∧vN p'∧xr p p'∧p'.paL.length=p'.pa.N)
set_option maxRecDepth 20000 in
set_option maxHeartbeats 1000000 in
theorem tA (w:World) (p:PgT) (h:cI w w.heap.size p) (hL:cX w):Calls Tryz.prog 4 #[.agg (pgC p).toArray] w fun e w'=>AB p e w'∧Below w.heap.size w w':=by
 obtain ⟨z,hz⟩:∃z,w.heap.size=z:=⟨_,rfl⟩;have hz6:6≤z:=hz▸hL.six;obtain ⟨w1,hw1⟩:∃w1,w.alloc (.cells (pgC p).toArray 26)=w1:=⟨_,rfl⟩;have hk:Bk w1 z 26 (pgC p):=hw1▸Bk.at_ w _ _ hz rfl;have hb:Below w.heap.size w w1:=hw1▸ai w _;have HW:=aa hw1;have HB:=aa hb;have HZ:=aa hz;have HP:=aa hk;have HPG:=aa (h.later hb);have HLD:=aa hL;have HZ6:=aa hz6;obtain ⟨fb,hfb⟩:∃b,rP p=b:=⟨_,rfl⟩;have HFB:=aa hfb;have hfw:=sL w1 p HPG.out;rw [hfb] at hfw;have HFW:=aa hfw;clear hk hw1 h hb hz hL hz6 hfb hfw;go_enter Tryz.func4,Tryz.ntmps4;go_upto_region 1 with fail
 rw [HW.out,HZ.out];go_wp2_with (with_reducible refine aj rfl 26 _ rfl z rfl (pgC p) 26 HP.out _ Tryz.underlying26 rfl (ct p) ?_)
 refine HFW.mono ?_;rintro e w2 ⟨rfl,hbn⟩;have HB2:=aa hbn;clear hbn;cases fb with
 | false=>
  go_wp2_with fail
  go_ret2;exact ⟨⟨_,false,rfl,fun h=>by cases h⟩,ab HB.out HB2.out⟩
 | true=>
  go_wp2_with (with_reducible refine aj rfl 26 _ rfl z rfl (pgC p) 26 (HP.out.later HB2.out) _ Tryz.underlying26 rfl (ct p) ?_)
  refine (yQ w2 p (HPG.later HB2.out)).mono ?_;rintro e w3 ⟨⟨p',rfl,hp',hlk⟩,hbn⟩;have HB3:=aa (ab HB2.out hbn);have HP':=aa hp';have HLK:=aa hlk;clear hbn hp' hlk;go_wp2_with fail
  refine (pN w3 p' HP'.out (HLD.below (by rw [HZ.out];exact HZ6.out) (ab HB.out HB3.out)) (by have:=HFB.out;unfold rP at this;simp at this;rw [HLK.size];omega)).mono ?_;rintro e w4 ⟨hrc,hbn⟩;have HB4:=aa (ab HB3.out hbn);have hlen:=HP'.lens.2;clear hbn;rcases hrc with ⟨n,rfl,hn⟩ | ⟨wb,gc,c,fL,rfl,h1,h2,h3,h4,h5⟩
  ·go_wp2_with fail
   go_ret2;exact ⟨⟨_,false,rfl,fun h=>by cases h⟩,ab HB.out HB4.out⟩
  ·have HR:=aa (And.intro h1 (And.intro h2 (And.intro h3 (And.intro h4 h5))));clear h1 h2 h3 h4 h5;go_wp2_with fail
   go_ret2;exact ⟨⟨_,true,rfl,fun _=>⟨p',wb,gc,c,fL,rfl,HR.out.1,HR.out.2.1,HR.out.2.2.1,HR.out.2.2.2.1,HR.out.2.2.2.2,HLK.out,hlen⟩⟩,ab HB.out HB4.out⟩
set_option maxRecDepth 20000 in
set_option maxHeartbeats 1000000 in
theorem pO (w:World) (p:PgT) (h:cI w w.heap.size p):Calls Tryz.prog 5 #[.agg (pgC p).toArray] w fun e w'=>fq e∧Below w.heap.size w w':=by
 obtain ⟨z,hz⟩:∃z,w.heap.size=z:=⟨_,rfl⟩;obtain ⟨w1,hw1⟩:∃w1,w.alloc (.cells (pgC p).toArray 26)=w1:=⟨_,rfl⟩;have hk:Bk w1 z 26 (pgC p):=hw1▸Bk.at_ w _ _ hz rfl;have hb:Below w.heap.size w w1:=hw1▸ai w _;have HW:=aa hw1;have HB:=aa hb;have HZ:=aa hz;have HP:=aa hk;have HPG:=aa (h.later hb);obtain ⟨fb,hfb⟩:∃b,rP p=b:=⟨_,rfl⟩;have hfw:=sL w1 p HPG.out;rw [hfb] at hfw;have HFW:=aa hfw;clear hk hw1 h hb hz hfb hfw;go_enter Tryz.func5,Tryz.ntmps5;go_upto_region 1 with fail
 rw [HW.out,HZ.out];go_wp2_with (with_reducible refine aj rfl 26 _ rfl z rfl (pgC p) 26 HP.out _ Tryz.underlying26 rfl (ct p) ?_)
 refine HFW.mono ?_;rintro e w2 ⟨rfl,hbn⟩;have HB2:=aa hbn;clear hbn;cases fb with
 | false=>
  go_wp2_with fail
  go_ret;exact ⟨⟨_,rfl⟩,ab HB.out HB2.out⟩
 | true=>
  go_wp2_with (with_reducible refine eU rfl 26 _ rfl z rfl (pgC p) 26 (HP.out.later HB2.out) _ Tryz.underlying26 rfl (ct p) ?_)
  refine (oK w2 p (HPG.later HB2.out)).mono ?_;rintro e w3 ⟨⟨fn,fs,rfl⟩,hbn⟩;have HB3:=aa (ab HB2.out hbn);clear hbn;obtain ⟨qf,hqf⟩:=kj fn fs;cases qf with
  | false=>
   go_wp2_with (((with_reducible refine im rfl 69 _ rfl #[] ?_ _ (mh _) ?_);focus (simp [Act.eval,Act.put];done)))
   clear hqf;go_ret;exact ⟨⟨_,rfl⟩,ab HB.out HB3.out⟩
  | true=>
   go_wp2_with (first | ((with_reducible refine im rfl 69 _ rfl #[] ?_ _ (mh _) ?_);focus (simp [Act.eval,Act.put];done)) | (with_reducible refine eU rfl 26 _ rfl z rfl (pgC p) 26 (HP.out.later HB3.out) _ Tryz.underlying26 rfl (ct p) ?_))
   clear hqf;refine (wD w3 p (HPG.later HB3.out)).mono ?_;rintro e w4 ⟨⟨y,rfl⟩,hbn⟩;have HB4:=aa (ab HB3.out hbn);clear hbn;cases y with
   | false=>
    go_wp2_with fail
    go_ret;exact ⟨⟨_,rfl⟩,ab HB.out HB4.out⟩
   | true=>
    go_wp2_with fail
    go_ret;exact ⟨⟨_,rfl⟩,ab HB.out HB4.out⟩
theorem pP {P:Program} {w:World} {o:Oper} {a:Act} {K:Act→World→Prop} {Q:Exit→Act→World→Prop} (d s:Operand) (dT sT:TypeId) (ho:o.op=.call { callee:=.builtin .copy,args:=#[d,s],argTypes:=#[dT,sT] }) (elem:TypeId) (hu:P.underlying dT=some (.slice elem)) (hsz:(P.info? elem).map (·.size)=some 1)
  (g off dLen dCap sLen sCap B:Nat) (A:Option Addr) (hd:a.eval d=.slice (some ⟨g,off,none⟩) dLen dCap) (hs:a.eval s=.slice A sLen sCap)
  (t:TypeId) (pre sub post cs:List Value) (hb:Bk w g t (pre ++ (sub ++ post))) (hp:pre.length=off) (hl:sub.length=cs.length) (hsl:Sl w B 1 A sLen cs) (hle:sLen≤dLen) (h1:∀v∈cs,v.oneCell'=true)
  (h:∀w',Put w w' g t (pre ++ (cs ++ post))→K (a.put o.dst (goInt cs.length)) w'):o.wp P a w K Q:=by
 have hcl:cs.length=sLen:=by have:=hsl.len;omega
 by_cases h0:cs.length=0
 ·obtain rfl:cs=[]:=List.eq_nil_of_length_eq_zero h0;obtain rfl:sub=[]:=List.eq_nil_of_length_eq_zero hl;have hz:sLen=0:=by simpa using hcl.symm
  have hrun:=run_copy_none (P:=P) w dT sT o.type elem (some ⟨g,off,none⟩) A dLen dCap sLen sCap hu hsz (by rw [hz];simp);unfold Oper.wp;simp [execOp,ho,resolve,invoke,builtin,hd,hs,hrun,Result.andThen];exact h w ⟨hb,bO w g,rfl⟩
 ·obtain ⟨ad,rfl,_,hsrc⟩:=hsl.mem (by omega);have hrun:=run_copy_row (P:=P) w dT sT o.type elem g off dLen dCap ad sLen sCap (pre ++ (sub ++ post)).toArray t cs hu hsz hb (by rw [hcl];exact (Nat.min_eq_left hle).symm) hsrc (by simp;omega) h1;unfold Oper.wp;simp [execOp,ho,resolve,invoke,builtin,hd,hs,hrun,Result.andThen];have e:(pre ++ (sub ++ post)).take off ++ (cs ++ (pre ++ (sub ++ post)).drop (off+cs.length))=pre ++ (cs ++ post):=by
   rw [←hp,List.take_left',←hl,←List.append_assoc pre sub post,show pre.length+sub.length=(pre ++ sub).length by simp,List.drop_left']
   ·rfl
   ·rfl
  have hk:=h (w.setRow g (pre ++ (cs ++ post)).toArray) ⟨by simpa using Bk.row hb (pre ++ (cs ++ post)).toArray,oX (bO w g) _,by simp [World.setRow]⟩;rw [←e] at hk;exact hk
theorem om {P:Program} {w:World} {ops:Array Oper} {rest:List Oper} {o:Oper} {a:Act} {Q:Exit→Act→World→Prop} (hgd:o.guard=none) (d s:Operand) (dT sT:TypeId) (ho:o.op=.call { callee:=.builtin .copy,args:=#[d,s],argTypes:=#[dT,sT] }) (elem:TypeId) (hu:P.underlying dT=some (.slice elem)) (hsz:(P.info? elem).map (·.size)=some 1)
  (g off dLen dCap sLen sCap B:Nat) (A:Option Addr) (hd:a.eval d=.slice (some ⟨g,off,none⟩) dLen dCap) (hs:a.eval s=.slice A sLen sCap)
  (t:TypeId) (pre sub post cs:List Value) (hb:Bk w g t (pre ++ (sub ++ post))) (hp:pre.length=off) (hl:sub.length=cs.length) (hsl:Sl w B 1 A sLen cs) (hle:sLen≤dLen) (h1:∀v∈cs,v.oneCell'=true)
  (h:∀w',Put w w' g t (pre ++ (cs ++ post))→wpList P ops Q rest (a.put o.dst (goInt cs.length)) w'):wpList P ops Q (o :: rest) a w:=
 wpList_plain hgd fun K hK=>pP d s dT sT ho elem hu hsz g off dLen dCap sLen sCap B A hd hs t pre sub post cs hb hp hl hsl hle h1 fun w' hp=>hK _ _ (h w' hp)
theorem vA (n:Int) (w:World):(Instr.build 85 #[(2,.int .i64 n),(3,.int .i64 1)]).run Tryz.prog w=.ok (.agg (i5 0 0 n 1 0).toArray) w:=by kernel_rfl
def gC (n k:Nat):Nat:=if k=2 then n else if k=3 then 1 else 0
theorem AC {w:World} {g n k:Nat} (h:Bk w g 85 (i5 0 0 n 1 0)) (hk:k≤4):w.cell? ⟨g,k,none⟩=some (.int .i64 (gC n k)):=by
 have:k=0∨k=1∨k=2∨k=3∨k=4:=by omega
 rcases this with rfl | rfl | rfl | rfl | rfl
 ·exact h.cell 0
 ·exact h.cell 1
 ·exact h.cell 2
 ·exact h.cell 3
 ·exact h.cell 4
set_option maxRecDepth 20000 in
set_option maxHeartbeats 2000000 in
theorem vB (w:World) (gc:Nat) (c:CdT) (k:Nat) (hk:k≤4) (A:Option Addr) (N C:Nat) (B:Option Addr) (M D:Nat) (ys:List Int) (ps:List VaT) (hbk:Bk w gc 87 (cdC c)) (hps:el w w.heap.size c.P.A c.P.N ps) (has:Sl w w.heap.size 1 B M (ys.map (.int .i32))) (hN:(N:Int)=if k=0 then 0 else c.bh) (hM:M=gC c.P.N k) (hPN:c.P.N≤1000) (hr:k=2→∀(i:Nat) (x:VaT) (y:Int),ps[i]?=some x→ys[i]?=some y→x.lo≤y∧y≤x.hi) (h32:∀y∈ys,-2147483648≤y∧y≤2147483647):Calls Tryz.prog 27 #[.pointer (some ⟨gc,0,none⟩),.int .i64 k,.slice A N C,.slice B M D] w fun e w'=>e=.returned (.int .i64 0)∧Below w.heap.size w w':=by
 have HBK:=aa hbk;have HPS:=aa hps;have HAS:=aa has;have HR:=aa hr;have H32:=aa h32;have HNN:=aa hN;have hk5:(k:Int) < 5:=by omega
 have hk0:(0:Int)≤k:=by omega
 clear hbk hps has hr h32 hN;go_enter Tryz.func27,Tryz.ntmps27;go_wp2_with (go_at_call 30;refine (je _ _).mono ?_;rintro e w' ⟨rfl,rfl⟩)
 go_cut [9,10] (fun p9 p10 wx=>∃g10:Nat,p9=.int .i64 c.bh∧p10=.pointer (some ⟨g10,0,none⟩)∧Hid (Bk wx g10 85 (i5 0 0 c.P.N 1 0))∧Hid (Below w.heap.size w wx))
 case first=>
  refine wp_region_held_drew (S:=fun wk=>wk.cell? ⟨gc,0,none⟩=some (.int .i64 c.bh)∧wk.cell? ⟨gc,3,none⟩=some (.slice c.P.A c.P.N c.P.C)) (by kernel_rfl) ⟨(HBK.later (ac w _ 1)).cell 0,(HBK.later (ac w _ 1)).cell 3⟩ (fun hHeld=>?_);obtain ⟨w2,hw2⟩:∃wa,w.drew=wa:=⟨_,rfl⟩;have hb2:Below w.heap.size w w2:=hw2▸ac w w.heap.size 1;rw [hw2] at hHeld ⊢;have HB2:=aa hb2;clear hw2 hb2;have hbg:=vA;refine tk 0 ?_;refine tk 4 ?_;refine tk 1 ?_;refine tk 5 ?_;refine tk 2 ?_;refine tk 6 ?_;refine tkv 3 rfl (fun w hSw=>by have hcell:=hSw.1;clear hSw;go_simp;try with_reducible rfl) ?_;refine tkv 7 rfl (fun w hSw=>by have hcell:=hSw.2;clear hSw;go_simp;try with_reducible rfl) ?_;refine tk 8 ?_;refine tk 9 ?_;clear hbg;refine wpAnyH_ready (rs:=[10]) (by kernel_rfl) (by simp) ?_;refine AllReadyH.cons rfl (fun Kx hK=>?_) AllReadyH.nil;go_simp;obtain ⟨g10,hg10⟩:∃q,w2.heap.size=q:=⟨_,rfl⟩;obtain ⟨w3,hw3⟩:∃wx,w2.alloc (.cells #[.int .i64 0,.int .i64 0,.int .i64 0,.int .i64 0,.int .i64 0] 85)=wx:=⟨_,rfl⟩;have hbn:Below w2.heap.size w2 w3:=hw3▸ai w2 _;have HK3:Hid (Bk w3 g10 85 (i5 0 0 0 0 0)):=by show Bk _ _ _ _;rw [←hw3,←hg10];exact Bk.new' _ _ _ rfl
  have HG3:Hid (w.heap.size≤g10):=by have:=HB2.size;show _≤_;omega
  have HB3:=aa (ab HB2.out hbn);rw [hw3,hg10];clear hw3 hg10 hbn;refine so hK ⟨(HBK.later HB3.out).cell 0,(HBK.later HB3.out).cell 3⟩ (fun hHeld=>?_);clear hK Kx;refine tk 11 ?_;refine rdw 12 (fun K hK=>?_);refine au _ _ _ rfl g10 0 (.agg (i5 0 0 c.P.N 1 0).toArray) (i5 0 0 c.P.N 1 0) rfl rfl rfl _ [] (i5 0 0 0 0 0) [] (by simpa using HK3.out) rfl rfl (da _ _ _ _ _) (iC _ _ _ _ _) ?_;intro w4 hp;have HK4:Hid (Bk w4 g10 85 (i5 0 0 c.P.N 1 0)):=by show Bk _ _ _ _;have:=hp.bk;simpa using this
  have HB4:=aa (ag HB3.out hp.only HB3.size HG3.out);clear hp;refine so hK ⟨(HBK.later HB4.out).cell 0,(HBK.later HB4.out).cell 3⟩ (fun hHeld=>?_);clear hK K;refine wpAnyH_done rfl ?_ _;go_wp2_with fail
  go_meet;exact ⟨g10,rfl,rfl,HK4.out,HB4.out⟩
 obtain ⟨g10,rfl,rfl,HG,HB4⟩:=hcut;refine ‹∀(a:Act) (w:World),Code.wp _ _ _ a w→_› _ _ ?_;have hgv:=AC HG.out hk;obtain ⟨w4,rfl⟩:∃x,x=wc:=⟨_,rfl⟩;subst hM;by_cases h0:k=0
 ·subst h0;obtain rfl:N=0:=by have:=HNN.out;simp at this;omega
  go_wp2_with fail
  go_ret;exact ⟨rfl,HB4.out⟩
 ·obtain ⟨bh,hbh⟩:∃bh,c.bh=bh:=⟨_,rfl⟩;have hbN:bh=N:=by have:=HNN.out;rw [if_neg h0,hbh] at this;exact this.symm
  rw [hbh];subst hbN;have h0' : ¬(k:Int)=0:=by omega
  by_cases h2:k=2
  ·subst h2;obtain ⟨M,hM⟩:∃M,gC c.P.N 2=M:=⟨_,rfl⟩;have hMP:M=c.P.N:=hM.symm;rw [hM] at hgv HAS ⊢;have c3:w4.cell? ⟨gc,3,none⟩=some (.slice c.P.A M c.P.C):=by rw [hMP];exact (HBK.later HB4.out).cell 3
   go_wp2_with fail
   clear c3 hgv;go_loopw [11,12,51] (fun _ _ i wr=>∃j:Nat,j≤M∧i=.int .i64 j∧Hid (Below w.heap.size w wr)) (fun _ _ i _=>M - (intOf i).toNat)
   case atStart=>exact ⟨0,Nat.zero_le _,rfl,HB4.out⟩
   case round=>
    obtain ⟨j,hj,rfl,hB⟩:=hrel;by_cases hlt:j < M
    ·obtain ⟨b,o,x,hA,hb,hr,hx,hok⟩:=(HPS.below hB.out).spot (k:=j) (by omega);obtain ⟨ad,y,hBd,hb2,hy,hc⟩:=(HAS.below hB.out).atg hlt;have hxy:=HR.out (by trivial) j x y hx hy;have hy32:=H32.out y (List.mem_of_getElem? hy);obtain ⟨hy1,hy2⟩:=hy32;have hwy:IntKind.i64.wrap y=y:=by rw [IntKind.wrap_i64];omega
     have hd1:decide (IntKind.i64.wrap y < x.lo)=false:=by rw [hwy];simp;omega
     have hd2:decide (x.hi < IntKind.i64.wrap y)=false:=by rw [hwy];simp;omega
     clear hwy;have HR1:=aa hr;have HC:=aa hc;have HBB:=aa hb2;have hjN:(j:Int) < M:=by omega
     clear hr hx hok hy hxy hb hc hb2;rw [hA,hBd];go_wp2_with (first | (with_reducible refine wpList_load_mid rfl 117 _ rfl b (o+j*4) rfl (vaC x) _ HR1.out Tryz.underlying117 rfl (aQ x) ?_) | (with_reducible refine ah 117 _ _ rfl ?_))
     refine ak.go ?_;obtain ⟨g3,hg3⟩:∃q,wr.heap.size=q:=⟨_,rfl⟩;rw [hg3];refine an 117 _ _ rfl g3 hg3 (vaC x) rfl rfl rfl rfl (aQ x) (bw x) ?_;intro w3 hk hbn;have HK3:=aa hk;have HB3:=aa hbn;clear hk hbn;go_wp2_with fail
     have HC3:Hid (∀wk,Below w3.heap.size w3 wk→(wk.cell? (ad.add j)=some (.int .i32 y)∧wk.cell? ⟨g3,2,none⟩=some (.int .i64 x.lo)∧wk.cell? ⟨g3,3,none⟩=some (.int .i64 x.hi))):=fun wk hb=>⟨(((ab HB3.out hb).mono hB.out.size).cell (p:=ad.add j) (by rw [du];exact HBB.out)).trans HC.out,(HK3.later hb).cell 2,(HK3.later hb).cell 3⟩;refine wp_region_held_drew (S:=fun wk=>wk.cell? (ad.add j)=some (.int .i32 y)∧wk.cell? ⟨g3,2,none⟩=some (.int .i64 x.lo)∧wk.cell? ⟨g3,3,none⟩=some (.int .i64 x.hi)) (by kernel_rfl) (HC3.out _ (ac w3 _ 1)) (fun hHeld=>?_);have HB5:=aa (ab hB.out (ab HB3.out (ac w3 w3.heap.size 1)));refine tk 0 ?_;refine tk 1 ?_;refine tk 5 ?_;refine tk 2 ?_;refine tkv 6 rfl (fun w hSw=>by have hcell:=hSw.2.1;clear hSw;go_simp;try with_reducible rfl) ?_;refine tkv 3 rfl (fun w hSw=>by have hcell:=hSw.1;clear hSw;go_simp;try with_reducible rfl) ?_;refine tk 4 ?_;refine tk 7 ?_;refine tk 8 ?_;refine tk 9 ?_;refine tk 10 ?_;refine tk 14 ?_;refine tk 11 ?_;refine tkv 15 rfl (fun w hSw=>by have hcell:=hSw.2.2;clear hSw;go_simp;try with_reducible rfl) ?_;refine tkv 12 rfl (fun w hSw=>by have hcell:=hSw.1;clear hSw;go_simp;try with_reducible rfl) ?_;refine tk 13 ?_;refine tk 16 ?_;refine tk 17 ?_;refine wpAnyH_done rfl ?_ _;clear hd1 hd2;go_wp2_with fail
     go_roundw
     case rel=>exact ⟨j+1,by omega,by go_num,HB5.out⟩
     case measure=>simp [intOf];omega
    ·go_wp2_with fail
     go_ret;exact ⟨rfl,hB.out⟩
  ·have h2' : ¬(k:Int)=2:=by omega
   go_wp2_with fail
   go_ret;exact ⟨rfl,HB4.out⟩
structure InT where
 op:Int
 a:Int
 b:Int
 c:Int
def aU (op:Int):List Nat:=
 if op=0 then [1] else if op=1 then [0,1] else if op=2 then [0,0] else if 3≤op∧op≤13 then [0,0,0] else if op=14 then [0,0]
 else if op=15 then [0,0,0] else if op=16 then [0,0,0] else if op=17 then [0,1,1] else if op=18 then [0,0,1] else if op=19 then [2]
 else if op=20 then [2,0] else if op=21 then [2,0] else []
def ek (op:Int):Bool:=decide (0≤op∧op < 22)
def ix (n:Int):Bool:=decide (-2147483648≤n∧n≤2147483647)
def dF (k:Option Nat) (n size words:Int):Bool:=match k with
 | none=>decide (n=0)
 | some 0=>decide (0≤n∧n < words)
 | some 2=>decide (0≤n∧n < size)
 | some _=>ix n
def cw (i:InT) (size words:Int):Bool:=
 ek i.op && (dF ((aU i.op)[0]?) i.a size words && (dF ((aU i.op)[1]?) i.b size words && (dF ((aU i.op)[2]?) i.c size words &&
  (if i.op=0 then decide (i.a=0∨i.a=1) else if i.op=17 then decide (i.b≤i.c) else if i.op=18 then decide (0≤i.c) else true))))
structure MsT where
 pc:Int
 mem:List Int
 halt:Int
structure eF (s:MsT):Prop where
 len:1≤s.mem.length∧s.mem.length≤256
 pc:0≤s.pc∧s.pc≤2048
 halt:0≤s.halt∧s.halt≤2
 mem:∀x∈s.mem,-2147483648≤x∧x≤2147483647
def cg (x:Int):Int:=(x+2147483648) % 4294967296 - 2147483648
def cN (b:Bool):Int:=if b then 1 else 0
def nc (op x y:Int):Int:=
 if op=3 then cg (x+y) else if op=4 then cg (x - y) else if op=5 then cg (x*y)
 else if op=6 then (if y=0 then 0 else cg (x.tdiv y)) else if op=7 then (if y=0 then 0 else x.tmod y)
 else if op=8 then cN (decide (x=y)) else if op=9 then cN (decide (x≠y)) else if op=10 then cN (decide (x < y)) else if op=11 then cN (decide (x≤y))
 else if op=12 then cN (decide (x≠0∧y≠0)) else cN (decide (x≠0∨y≠0))
def br (m:List Int) (i:Int):Int:=m.getD i.toNat 0
def bV (l:List InT) (s:MsT):Option InT:=
 if (2048:Int) < l.length∨(l.length:Int)≤s.pc then none else match l[s.pc.toNat]? with
  | none=>none
  | some i=>if cw i l.length s.mem.length=true then some i else none
def dg (i:InT) (m:List Int):Int:=
 let p:=if i.op=15 then i.b+br m i.c else if i.op=16 then i.a+br m i.b else -1
 if (m.length:Int)≤p then -1 else max p (-1)
def cO (m:List Int) (i x:Int):List Int:=m.set i.toNat x
def be (l:List InT) (s:MsT):MsT:=match bV l s with
 | none=>{ s with halt:=2 }
 | some i=>
  if dg i s.mem < 0∧(i.op=15∨i.op=16) then { s with halt:=2 }
  else if i.op=0 then { s with halt:=1+i.a }
  else if i.op=1 then ⟨s.pc+1,cO s.mem i.a (cg i.b),s.halt⟩
  else if i.op=2 then ⟨s.pc+1,cO s.mem i.a (br s.mem i.b),s.halt⟩
  else if i.op=14 then ⟨s.pc+1,cO s.mem i.a (cN (decide (br s.mem i.b=0))),s.halt⟩
  else if i.op=15 then ⟨s.pc+1,cO s.mem i.a (br s.mem (dg i s.mem)),s.halt⟩
  else if i.op=16 then ⟨s.pc+1,cO s.mem (dg i s.mem) (br s.mem i.c),s.halt⟩
  else if i.op=17 then ⟨s.pc+1,cO s.mem i.a (min (max (br s.mem i.a) (cg i.b)) (cg i.c)),s.halt⟩
  else if i.op=18 then ⟨s.pc+1,cO s.mem i.a (cN (decide (0≤br s.mem i.b∧br s.mem i.b < i.c))),s.halt⟩
  else if i.op=19 then { s with pc:=i.a }
  else if i.op=20∨i.op=21 then (if decide (br s.mem i.b=0)=decide (i.op=20) then { s with pc:=i.a } else { s with pc:=s.pc+1 })
  else ⟨s.pc+1,cO s.mem i.a (nc i.op (br s.mem i.b) (br s.mem i.c)),s.halt⟩
def bi (i:InT):List Int:=
 if i.op=2∨i.op=14∨i.op=18∨i.op=20∨i.op=21 then [i.b]
 else if i.op=15 then [i.c]
 else if i.op=17 then [i.a]
 else if (3≤i.op∧i.op≤13)∨i.op=16 then (if i.b=i.c then [i.b] else [i.b,i.c])
 else []
def aK (i:InT):Int:=if (aU i.op)[0]?=some 0∧i.op≠16 then i.a else -1
def mK (x:Int):List Int→List Int
 | []=>[x]
 | y :: ys=>if x≤y then x :: y :: ys else y :: mK x ys
def dh:List Int→List Int
 | []=>[]
 | x :: xs=>mK x (dh xs)
def aE (l:List InT) (s:MsT):List Int × Int:=
 if s.halt≠0 then ([],-1) else match bV l s with
  | none=>([],-1)
  | some i=>
   if i.op=16 then (dh (bi i),dg i s.mem)
   else if i.op=15 then (if dg i s.mem < 0 then (dh (bi i),-1) else (dh (if dg i s.mem∈bi i then bi i else bi i ++ [dg i s.mem]),aK i))
   else (dh (bi i),aK i)
theorem pG {x y:Int} : ∀{l:List Int},y∈mK x l ↔ y=x∨y∈l
 | []=>by simp [mK]
 | z :: zs=>by
  unfold mK;split
  ·simp
  ·rw [List.mem_cons,pG (l:=zs),List.mem_cons];constructor
   ·rintro (h | h | h)
    ·exact .inr (.inl h)
    ·exact .inl h
    ·exact .inr (.inr h)
   ·rintro (h | h | h)
    ·exact .inr (.inl h)
    ·exact .inl h
    ·exact .inr (.inr h)
theorem dv {y:Int} : ∀{l:List Int},y∈dh l ↔ y∈l
 | []=>by simp [dh]
 | x :: xs=>by rw [dh,pG,dv (l:=xs),List.mem_cons]
def cP (i:InT) (m:List Int):Int:=
 if i.op=1 then cg i.b else if i.op=2 then br m i.b else if i.op=14 then cN (decide (br m i.b=0)) else if i.op=15 then br m (dg i m)
 else if i.op=16 then br m i.c else if i.op=17 then min (max (br m i.a) (cg i.b)) (cg i.c)
 else if i.op=18 then cN (decide (0≤br m i.b∧br m i.b < i.c)) else nc i.op (br m i.b) (br m i.c)
def bD (i:InT) (s:MsT):Int × Int:=
 if dg i s.mem < 0∧(i.op=15∨i.op=16) then (s.pc,2)
 else if i.op=0 then (s.pc,1+i.a)
 else if i.op=19 then (i.a,s.halt)
 else if i.op=20∨i.op=21 then (if decide (br s.mem i.b=0)=decide (i.op=20) then i.a else s.pc+1,s.halt)
 else (s.pc+1,s.halt)
def wrI (i:InT) (m:List Int):Int:=if i.op=16 then dg i m else if i.op=15∧dg i m < 0 then -1 else aK i
theorem fX {op:Int} (h:ek op=true):op=0∨op=1∨op=2∨(3≤op∧op≤13)∨op=14∨op=15∨op=16∨op=17∨op=18∨op=19∨op=20∨op=21:=by
 have:0≤op∧op < 22:=by simpa [ek] using h
 omega
theorem gA {i:InT} {n m:Int} (h:cw i n m=true):ek i.op=true:=by unfold cw at h;rw [Bool.and_eq_true] at h;exact h.1
theorem fo {i:InT} {n m:Int} (h:cw i n m=true):dF ((aU i.op)[0]?) i.a n m=true∧dF ((aU i.op)[1]?) i.b n m=true∧dF ((aU i.op)[2]?) i.c n m=true:=by unfold cw at h;rw [Bool.and_eq_true,Bool.and_eq_true,Bool.and_eq_true,Bool.and_eq_true] at h;exact ⟨h.2.1,h.2.2.1,h.2.2.2.1⟩
theorem fe {op:Int} (h:3≤op∧op≤13):aU op=[0,0,0]:=by unfold aU;rw [if_neg (by omega),if_neg (by omega),if_neg (by omega),if_pos h]
theorem cW {i:InT} {n m:Int} (h:cw i n m=true) (ho:(aU i.op)[0]?=some 0):0≤i.a∧i.a < m:=by have:=(fo h).1;rw [ho] at this;simpa [dF] using this
theorem eN {i:InT} {n m:Int} (h:cw i n m=true) (ho:(aU i.op)[1]?=some 0):0≤i.b∧i.b < m:=by have:=(fo h).2.1;rw [ho] at this;simpa [dF] using this
theorem j3 {i:InT} {n m:Int} (h:cw i n m=true) (ho:(aU i.op)[2]?=some 0):0≤i.c∧i.c < m:=by have:=(fo h).2.2;rw [ho] at this;simpa [dF] using this
theorem fD {l:List InT} {s:MsT} {i:InT} {n m:Int} (hn:bV l s=some i) (hr:cw i n m=true):be l s=⟨(bD i s).1,if wrI i s.mem < 0 then s.mem else cO s.mem (wrI i s.mem) (cP i s.mem),(bD i s).2⟩:=by
 unfold be;rw [hn];simp only;rcases fX (gA hr) with h | h | h | h | h | h | h | h | h | h | h | h
 ·simp [bD,wrI,aK,aU,h]
 ·have ha:=cW hr (by rw [h];rfl);simp [bD,wrI,aK,aU,h,cP,show ¬i.a < 0 by omega]
 ·have ha:=cW hr (by rw [h];rfl);simp [bD,wrI,aK,aU,h,cP,show ¬i.a < 0 by omega]
 ·have ha:=cW hr (by rw [fe h];rfl);have e1:i.op≠0:=by omega
  have e2:i.op≠1:=by omega
  have e3:i.op≠2:=by omega
  have e4:i.op≠14:=by omega
  have e5:i.op≠15:=by omega
  have e6:i.op≠16:=by omega
  have e7:i.op≠17:=by omega
  have e8:i.op≠18:=by omega
  have e9:i.op≠19:=by omega
  have ea:i.op≠20:=by omega
  have eb:i.op≠21:=by omega
  simp [bD,wrI,aK,fe h,cP,e1,e2,e3,e4,e5,e6,e7,e8,e9,ea,eb,show ¬i.a < 0 by omega]
 ·have ha:=cW hr (by rw [h];rfl);simp [bD,wrI,aK,aU,h,cP,show ¬i.a < 0 by omega]
 ·have ha:=cW hr (by rw [h];rfl);by_cases hf:dg i s.mem < 0
  ·simp [bD,wrI,aK,aU,h,cP,hf]
  ·simp [bD,wrI,aK,aU,h,cP,hf,show ¬i.a < 0 by omega]
 ·by_cases hf:dg i s.mem < 0
  ·simp [bD,wrI,aK,aU,h,cP,hf]
  ·simp [bD,wrI,aK,aU,h,cP,hf]
 ·have ha:=cW hr (by rw [h];rfl);simp [bD,wrI,aK,aU,h,cP,show ¬i.a < 0 by omega]
 ·have ha:=cW hr (by rw [h];rfl);simp [bD,wrI,aK,aU,h,cP,show ¬i.a < 0 by omega]
 ·simp [bD,wrI,aK,aU,h,cP]
 ·have e:wrI i s.mem < 0:=by simp [wrI,aK,aU,h]
  rw [if_pos e];by_cases hb:br s.mem i.b=0 <;> simp [bD,h,hb]
 ·have e:wrI i s.mem < 0:=by simp [wrI,aK,aU,h]
  rw [if_pos e];by_cases hb:br s.mem i.b=0 <;> simp [bD,h,hb]
theorem gB {i:InT} (h:(3≤i.op∧i.op≤13)∨i.op=16):bi i=if i.b=i.c then [i.b] else [i.b,i.c]:=by unfold bi;rw [if_neg (by omega),if_neg (by omega),if_neg (by omega),if_pos h]
theorem iV {i:InT} (h:i.op=2∨i.op=14∨i.op=18∨i.op=20∨i.op=21∨(3≤i.op∧i.op≤13)∨i.op=16):i.b∈bi i:=by
 by_cases h1:i.op=2∨i.op=14∨i.op=18∨i.op=20∨i.op=21
 ·unfold bi;rw [if_pos h1];simp
 ·rw [gB (by omega)];split <;> simp
theorem ob {i:InT} (h:i.op=15∨(3≤i.op∧i.op≤13)∨i.op=16):i.c∈bi i:=by
 by_cases h1:i.op=15
 ·unfold bi;rw [if_neg (by omega),if_pos h1];simp
 ·rw [gB (by omega)];split
  ·rename_i e;simp [e]
  ·simp
theorem xU {i:InT} (h:i.op=17):i.a∈bi i:=by unfold bi;rw [if_neg (by omega),if_neg (by omega),if_pos h];simp
theorem lN {i:InT} {m m' : List Int} (hl:m'.length=m.length) (h:∀x∈bi i,br m' x=br m x):dg i m'=dg i m:=by
 unfold dg;rw [hl];by_cases h5:i.op=15
 ·simp only [h5,if_true];rw [h i.c (ob (.inl h5))]
 ·by_cases h6:i.op=16
  ·have e:=h i.b (iV (by omega));simp [h6,e]
  ·simp only [h5,h6,if_false]
theorem nf {i:InT} {s s' : MsT} (hp:s'.pc=s.pc) (hh:s'.halt=s.halt) (hl:s'.mem.length=s.mem.length) (h:∀x∈bi i,br s'.mem x=br s.mem x):bD i s'=bD i s:=by
 unfold bD;rw [lN hl h,hp,hh];by_cases h2:i.op=20∨i.op=21
 ·rw [h i.b (iV (by omega))]
 ·simp only [if_neg h2]
theorem vq {i:InT} {m m' : List Int} (ho:ek i.op=true) (hl:m'.length=m.length) (h:∀x∈bi i,br m' x=br m x) (hf:i.op=15→br m' (dg i m)=br m (dg i m)) (hw:0≤wrI i m):cP i m'=cP i m:=by
 have w0:i.op=0∨19≤i.op→False:=by
  intro e;have:wrI i m= -1:=by rcases fX ho with k | k | k | k | k | k | k | k | k | k | k | k <;> first | (exfalso;omega) | (simp [wrI,aK,aU,k])
  omega
 unfold cP;rcases fX ho with k | k | k | k | k | k | k | k | k | k | k | k
 ·exact absurd (.inl k) w0
 ·simp only [k,if_true]
 ·have e:=h i.b (iV (.inl k));simp [k,e]
 ·have e:=h i.b (iV (by omega));have e':=h i.c (ob (by omega));rw [if_neg (by omega),if_neg (by omega),if_neg (by omega),if_neg (by omega),if_neg (by omega),if_neg (by omega),if_neg (by omega),if_neg (by omega),if_neg (by omega),if_neg (by omega),if_neg (by omega),if_neg (by omega),if_neg (by omega),if_neg (by omega),e,e']
 ·have e:=h i.b (iV (by omega));simp [k,e]
 ·simp [k,lN hl h,hf k]
 ·have e:=h i.c (ob (by omega));simp [k,e]
 ·have e:=h i.a (xU k);simp [k,e]
 ·have e:=h i.b (iV (by omega));simp [k,e]
 ·exact absurd (.inr (by omega)) w0
 ·exact absurd (.inr (by omega)) w0
 ·exact absurd (.inr (by omega)) w0
theorem tm {l l' : List InT} {s s' : MsT} (hp:s'.pc=s.pc) (hl:s'.mem.length=s.mem.length) (hn:l'.length=l.length) (hi:l'[s.pc.toNat]?=l[s.pc.toNat]?):bV l' s'=bV l s:=by unfold bV;rw [hp,hn,hi,hl]
theorem bW {l:List InT} {s:MsT} {i:InT} (h:bV l s=some i):cw i l.length s.mem.length=true:=by
 unfold bV at h;split at h
 ·cases h
 ·split at h
  ·cases h
  ·split at h
   ·rename_i e;injection h with h;rw [←h];exact e
   ·cases h
theorem qW {l:List InT} {s:MsT} {i:InT} (h0:s.halt=0) (h:bV l s=some i) {x:Int} (hx:x∈bi i):x∈(aE l s).1:=by
 unfold aE;rw [if_neg (by omega),h];simp only;split
 ·exact dv.2 hx
 ·split
  ·split
   ·exact dv.2 hx
   ·refine dv.2 ?_;split
    ·exact hx
    ·exact List.mem_append.2 (.inl hx)
  ·exact dv.2 hx
theorem vt {l:List InT} {s:MsT} {i:InT} (h0:s.halt=0) (h:bV l s=some i) (h5:i.op=15) (hf:0≤dg i s.mem):dg i s.mem∈(aE l s).1:=by
 unfold aE;rw [if_neg (by omega),h];simp only;rw [if_neg (by omega),if_pos h5,if_neg (by omega)];refine dv.2 ?_;split
 ·assumption
 ·simp
theorem pH {l:List InT} {s:MsT} {i:InT} (h0:s.halt=0) (h:bV l s=some i):(aE l s).2=wrI i s.mem:=by
 unfold aE wrI;rw [if_neg (by omega),h];simp only;by_cases h6:i.op=16
 ·simp only [h6,if_true]
 ·simp only [h6,if_false];by_cases h5:i.op=15
  ·simp only [h5,if_true,true_and];split <;> rfl
  ·simp only [h5,if_false,false_and]
theorem za {i:InT} {n:Int} {m:List Int} (hr:cw i n m.length=true) (hw:0≤wrI i m):wrI i m < m.length:=by
 unfold wrI at hw ⊢;split
 ·unfold dg;simp only;split <;> omega
 ·rename_i h6;rw [if_neg h6] at hw;split
  ·rename_i h5;rw [if_pos h5] at hw;omega
  ·rename_i h5;rw [if_neg h5] at hw;unfold aK at hw ⊢;split
   ·rename_i ho;exact (cW hr ho.1).2
   ·omega
theorem tn {l l' : List InT} {s s' : MsT} {i:InT} (h0:s.halt=0) (hn:bV l s=some i) (hp:s'.pc=s.pc) (hh:s'.halt=s.halt) (hl:s'.mem.length=s.mem.length) (hln:l'.length=l.length) (hi:l'[s.pc.toNat]?=l[s.pc.toNat]?) (hm:∀x∈(aE l s).1,br s'.mem x=br s.mem x):aE l' s'=aE l s∧(be l' s').pc=(be l s).pc∧(be l' s').halt=(be l s).halt∧(0≤(aE l s).2→br (be l' s').mem (aE l s).2=cP i s.mem):=by
 have hn' : bV l' s'=some i:=(tm hp hl hln hi).trans hn;have hr:=bW hn;have hnm:∀x∈bi i,br s'.mem x=br s.mem x:=fun x hx=>hm x (qW h0 hn hx);have hf:=lN hl hnm;have hwr:wrI i s'.mem=wrI i s.mem:=by unfold wrI;rw [hf]
 refine ⟨?_,?_,?_,?_⟩
 ·unfold aE;rw [hh,hn',hn];simp only [hf]
 ·rw [fD hn' hr,fD hn hr];simp only;rw [nf hp hh hl hnm]
 ·rw [fD hn' hr,fD hn hr];simp only;rw [nf hp hh hl hnm]
 ·intro hw;rw [pH h0 hn] at hw ⊢;have hlt:=za hr hw;rw [fD hn' hr,hwr];simp only;rw [if_neg (by omega)];rw [vq (gA hr) hl hnm (fun h5=>hm _ (vt h0 hn h5 (by
   have:wrI i s.mem=if dg i s.mem < 0 then -1 else aK i:=by simp [wrI,h5]
   rw [this] at hw;split at hw <;> omega))) hw]
  unfold br cO;rw [List.getD_eq_getElem?_getD,List.getElem?_set,if_pos rfl,if_pos (by omega)];rfl
theorem vu {l:List InT} {s:MsT} {i:InT} (h0:s.halt=0) (hn:bV l s=some i):(be l s).mem=if (aE l s).2 < 0 then s.mem else cO s.mem (aE l s).2 (cP i s.mem):=by rw [fD hn (bW hn),pH h0 hn]
theorem iW {l:List InT} {s:MsT} (hn:bV l s=none):be l s= { s with halt:=2 }:=by unfold be;rw [hn]
def ij (x:Int):Prop:=-2147483648≤x∧x≤2147483647
theorem iX (x:Int):ij (cg x):=by unfold ij cg;omega
theorem pI (b:Bool):ij (cN b):=by unfold ij cN;split <;> omega
theorem lf {m:List Int} (h:∀x∈m,ij x) (i:Int):ij (br m i):=by
 unfold br;rw [List.getD_eq_getElem?_getD];cases e:m[i.toNat]? with
 | none=>exact ⟨by decide,by decide⟩
 | some v=>exact h v (List.mem_of_getElem? e)
theorem xV {x:Int} (y:Int) (h:ij x):ij (x.tmod y):=by
 have h1:(x.tmod y).natAbs≤x.natAbs:=by rw [Int.natAbs_tmod];exact Nat.mod_le _ _
 have h2:x < 0→x.tmod y≤0:=fun h=>by have:=Int.tmod_nonneg (a:=-x) y (by omega);rw [Int.neg_tmod] at this;omega
 have h3:0≤x→0≤x.tmod y:=fun h=>Int.tmod_nonneg y h;unfold ij at h ⊢;generalize x.tmod y=z at h1 h2 h3 ⊢;omega
theorem zD {op x y:Int} (h:ij x):ij (nc op x y):=by
 unfold nc
 repeat' split
 all_goals first | exact iX _ | exact pI _ | exact xV _ h | exact ⟨by decide,by decide⟩
theorem zE {i:InT} {m:List Int} (h:∀x∈m,ij x):ij (cP i m):=by
 have ha:=lf h;unfold cP
 repeat' split
 all_goals first | exact iX _ | exact pI _ | exact ha _ | exact zD (ha _) | skip
 have h1:=ha i.a;have h2:=iX i.b;have h3:=iX i.c;unfold ij at *; omega
theorem xW {l:List InT} {s:MsT} {i:InT} (ok:eF s) (hn:bV l s=some i):0≤(bD i s).1∧(bD i s).1≤2048:=by
 have hr:=bW hn;have hp:=ok.pc;have hlen:(l.length:Int)≤2048∧s.pc < l.length:=by
  unfold bV at hn;split at hn
  ·cases hn
  ·omega
 have hj:19≤i.op→0≤i.a∧i.a < l.length:=by
  intro h;have h1:=(fo hr).1;have ho:=fX (gA hr);have:(aU i.op)[0]?=some 2:=by
   have:i.op=19∨i.op=20∨i.op=21:=by omega
   rcases this with h | h | h <;> rw [h] <;> rfl
  rw [this] at h1;simpa [dF] using h1
 unfold bD;by_cases c1:dg i s.mem < 0∧(i.op=15∨i.op=16)
 ·rw [if_pos c1];exact hp
 rw [if_neg c1];by_cases c2:i.op=0
 ·rw [if_pos c2];exact hp
 rw [if_neg c2];by_cases c3:i.op=19
 ·rw [if_pos c3];have:=hj (by omega);exact ⟨by simp only;omega,by simp only;omega⟩
 rw [if_neg c3];by_cases c4:i.op=20∨i.op=21
 ·rw [if_pos c4];have:=hj (by omega);simp only;split <;> exact ⟨by omega,by omega⟩
 ·rw [if_neg c4];exact ⟨by simp only;omega,by simp only;omega⟩
theorem tp {l:List InT} {s:MsT} {i:InT} (ok:eF s) (hn:bV l s=some i):0≤(bD i s).2∧(bD i s).2≤2:=by
 have hr:=bW hn;have hh:=ok.halt;have h0:i.op=0→i.a=0∨i.a=1:=by intro h;unfold cw at hr;rw [Bool.and_eq_true,Bool.and_eq_true,Bool.and_eq_true,Bool.and_eq_true] at hr;have:=hr.2.2.2.2;rw [if_pos h] at this;simpa using this
 unfold bD;by_cases c1:dg i s.mem < 0∧(i.op=15∨i.op=16)
 ·rw [if_pos c1];exact ⟨by simp only;omega,by simp only;omega⟩
 rw [if_neg c1];by_cases c2:i.op=0
 ·rw [if_pos c2];have:=h0 c2;exact ⟨by simp only;omega,by simp only;omega⟩
 rw [if_neg c2];split
 ·exact hh
 ·split <;> exact hh
theorem oc {l:List InT} {s:MsT} (ok:eF s):eF (be l s)∧(be l s).mem.length=s.mem.length:=by
 cases hn:bV l s with
 | none=>rw [iW hn];exact ⟨⟨ok.len,ok.pc,⟨by simp only;omega,by simp only;omega⟩,ok.mem⟩,rfl⟩
 | some i=>
  rw [fD hn (bW hn)];have hl:(if wrI i s.mem < 0 then s.mem else cO s.mem (wrI i s.mem) (cP i s.mem)).length=s.mem.length:=by
   split
   ·rfl
   ·unfold cO;rw [List.length_set]
  refine ⟨⟨?_,xW ok hn,tp ok hn,?_⟩,hl⟩
  ·simp only;rw [hl];exact ok.len
  ·intro x hx;simp only at hx;split at hx
   ·exact ok.mem x hx
   ·unfold cO at hx;rcases List.mem_or_eq_of_mem_set hx with h | h
    ·exact ok.mem x h
    ·rw [h];exact zE ok.mem
theorem sC {l:List InT} {s:MsT} {i:InT} (h:bV l s=some i):l[s.pc.toNat]?=some i∧s.pc < l.length∧l.length≤2048:=by
 unfold bV at h;split at h
 ·cases h
 ·rename_i hc;split at h
  ·cases h
  ·rename_i j hj;split at h
   ·injection h with h
    subst h;exact ⟨hj,by omega,by omega⟩
   ·cases h
theorem iy {i:InT} {n:Int} {m:List Int} (hr:cw i n m.length=true) {x:Int} (hx:x∈bi i):0≤x∧x < m.length:=by
 have ho:=fX (gA hr);have h2:(3≤i.op∧i.op≤13)∨i.op=16→0≤x∧x < m.length:=by
  intro h;rw [gB h] at hx;have hb:(aU i.op)[1]?=some 0:=by rcases h with h | h <;> first | (rw [fe h];rfl) | (rw [h];rfl)
  have hc:(aU i.op)[2]?=some 0:=by rcases h with h | h <;> first | (rw [fe h];rfl) | (rw [h];rfl)
  split at hx
  ·simp only [List.mem_singleton] at hx;subst hx;exact eN hr hb
  ·simp only [List.mem_cons,List.not_mem_nil,or_false] at hx;rcases hx with rfl | rfl
   ·exact eN hr hb
   ·exact j3 hr hc
 have hb:i.op=2∨i.op=14∨i.op=18∨i.op=20∨i.op=21→0≤x∧x < m.length:=by intro h;unfold bi at hx;rw [if_pos h] at hx;simp only [List.mem_singleton] at hx;subst hx;exact eN hr (by rcases h with h | h | h | h | h <;> rw [h] <;> rfl)
 rcases ho with h | h | h | h | h | h | h | h | h | h | h | h
 ·unfold bi at hx;simp [h] at hx
 ·unfold bi at hx;simp [h] at hx
 ·exact hb (by omega)
 ·exact h2 (by omega)
 ·exact hb (by omega)
 ·unfold bi at hx;simp [h] at hx;subst hx;exact j3 hr (by rw [h];rfl)
 ·exact h2 (by omega)
 ·unfold bi at hx;simp [h] at hx;subst hx;exact cW hr (by rw [h];rfl)
 ·exact hb (by omega)
 ·unfold bi at hx;simp [h] at hx
 ·exact hb (by omega)
 ·exact hb (by omega)
theorem qX (i:InT) (m:List Int):dg i m < m.length:=by unfold dg;simp only;split <;> omega
theorem lO {l:List InT} {s:MsT} {x:Int} (hx:x∈(aE l s).1):0≤x∧x < s.mem.length:=by
 unfold aE at hx;split at hx
 ·simp at hx
 ·split at hx
  ·simp at hx
  ·rename_i i hn;have hr:=bW hn;split at hx
   ·exact iy hr (dv.1 hx)
   ·split at hx
    ·split at hx
     ·exact iy hr (dv.1 hx)
     ·have h1:=dv.1 hx;split at h1
      ·exact iy hr h1
      ·rcases List.mem_append.1 h1 with h | h
       ·exact iy hr h
       ·simp only [List.mem_singleton] at h;subst h;exact ⟨by omega,qX _ _⟩
    ·exact iy hr (dv.1 hx)
theorem cR:∀(l:List Int),(dh l).length=l.length
 | []=>rfl
 | x :: xs=>by
  rw [dh,List.length_cons,←cR xs];generalize dh xs=ys;induction ys with
  | nil=>rfl
  | cons y ys ih=>unfold mK;split <;> simp [ih]
theorem ng (i:InT):(bi i).length≤2:=by
 unfold bi;repeat' split
 all_goals simp
theorem kH (l:List InT) (s:MsT):(aE l s).1.length≤3:=by
 unfold aE;split
 ·simp
 ·split
  ·simp
  ·rename_i i hn;have:=ng i;split
   ·simp only [cR];omega
   ·split
    ·split
     ·simp only [cR];omega
     ·simp only [cR];split
      ·omega
      ·rw [List.length_append];simp;omega
    ·simp only [cR];omega
theorem nh {l:List InT} {s:MsT} (h:0≤(aE l s).2):(aE l s).2 < s.mem.length:=by
 unfold aE at h ⊢;split
 ·rename_i hc;rw [if_pos hc] at h;simp at h
 ·rename_i h0;rw [if_neg h0] at h;split
  ·rename_i hn;rw [hn] at h;simp at h
  ·rename_i i hn;have hr:=bW hn;rw [hn] at h;simp only at h;have hw:0≤wrI i s.mem→wrI i s.mem < s.mem.length:=fun h=>za hr h;unfold wrI at hw;by_cases h6:i.op=16
   ·simp only [h6,if_true] at h hw ⊢;exact hw h
   ·simp only [h6,if_false] at h hw ⊢;by_cases h5:i.op=15
    ·simp only [h5,if_true,true_and] at h hw ⊢;split
     ·rename_i hf;rw [if_pos hf] at h;simp at h
     ·rename_i hf;rw [if_neg hf] at h hw;exact hw h
    ·simp only [h5,if_false,false_and] at h hw ⊢;exact hw h
def dV (m:List Int) (z:List Int) (rs:List Int):List Int:=rs.foldl (fun z x=>cO z x (br m x)) z
theorem iY (m:List Int):∀(rs z:List Int),(dV m z rs).length=z.length
 | [],z=>rfl
 | r :: rs,z=>by show (dV m (cO z r (br m r)) rs).length=_;rw [iY m rs];unfold cO;rw [List.length_set]
theorem qY (m z rs:List Int) (x:Int):dV m z (rs ++ [x])=cO (dV m z rs) x (br m x):=by unfold dV;rw [List.foldl_append];rfl
theorem pJ {z:List Int} {x y v:Int} (hx:0≤x∧x < z.length) (hy:0≤y):br (cO z x v) y=if y=x then v else br z y:=by
 unfold br cO;rw [List.getD_eq_getElem?_getD,List.getD_eq_getElem?_getD,List.getElem?_set];by_cases h:y=x
 ·subst h;rw [if_pos rfl,if_pos rfl,if_pos (by omega)];rfl
 ·rw [if_neg (by omega),if_neg h]
theorem pK (m:List Int):∀(rs z:List Int),(∀x∈rs,0≤x∧x < (z.length:Int))→∀x∈rs,br (dV m z rs) x=br m x
 | [],z,_,x,hx=>by simp at hx
 | r :: rs,z,h,x,hx=>by
  show br (dV m (cO z r (br m r)) rs) x=_;have hl:(cO z r (br m r)).length=z.length:=by unfold cO;rw [List.length_set]
  have hrs:∀y∈rs,0≤y∧y < ((cO z r (br m r)).length:Int):=fun y hy=>by rw [hl];exact h y (List.mem_cons_of_mem _ hy)
  by_cases hm:x∈rs
  ·exact pK m rs _ hrs x hm
  ·rcases List.mem_cons.1 hx with rfl | hx
   ·have hk:∀(rs z:List Int),(∀y∈rs,0≤y∧y < (z.length:Int))→x ∉ rs→0≤x→br (dV m z rs) x=br z x:=by
     intro rs;induction rs with
     | nil=>intro z _ _ _;rfl
     | cons y ys ih=>intro z hz hx hx0;show br (dV m (cO z y (br m y)) ys) x=_;rw [ih _ (fun u hu=>by unfold cO;rw [List.length_set];exact hz u (List.mem_cons_of_mem _ hu)) (fun hu=>hx (List.mem_cons_of_mem _ hu)) hx0,pJ (hz y (by simp)) hx0,if_neg (fun e=>hx (by simp [e]))]
    have h0:=h x (by simp);rw [hk rs _ hrs hm h0.1,pJ h0 h0.1,if_pos rfl]
   ·exact absurd hx hm
def kI:InT:=⟨0,0,0,0⟩
theorem qZ {l:List InT} {s:MsT} {i:InT} (ok:eF s) (h0:s.halt=0) (hn:bV l s=some i):aE ((List.replicate l.length kI).set s.pc.toNat i) ⟨s.pc,dV s.mem (List.replicate s.mem.length 0) (aE l s).1,0⟩=aE l s∧(be ((List.replicate l.length kI).set s.pc.toNat i) ⟨s.pc,dV s.mem (List.replicate s.mem.length 0) (aE l s).1,0⟩).pc=(be l s).pc∧(be ((List.replicate l.length kI).set s.pc.toNat i) ⟨s.pc,dV s.mem (List.replicate s.mem.length 0) (aE l s).1,0⟩).halt=(be l s).halt∧(0≤(aE l s).2→br (be ((List.replicate l.length kI).set s.pc.toNat i) ⟨s.pc,dV s.mem (List.replicate s.mem.length 0) (aE l s).1,0⟩).mem (aE l s).2=cP i s.mem):=by
 obtain ⟨hi,hp,hl⟩:=sC hn;have hlt:s.pc.toNat < l.length:=by have:=ok.pc;omega
 refine tn (l':=(List.replicate l.length kI).set s.pc.toNat i) (s':=⟨s.pc,dV s.mem (List.replicate s.mem.length 0) (aE l s).1,0⟩) h0 hn rfl h0.symm ?_ ?_ ?_ ?_
 ·simp only;rw [iY];simp
 ·simp
 ·rw [hi,List.getElem?_set_self (by simpa using hlt)]
 ·exact pK s.mem _ _ (fun x hx=>by have:=lO hx;simpa using this)
theorem xX {m rs z:List Int} (hm:∀x∈m,ij x) (hz:∀x∈z,ij x):∀x∈dV m z rs,ij x:=by
 induction rs generalizing z with
 | nil=>exact hz
 | cons r rs ih=>
  refine ih (z:=cO z r (br m r)) ?_;intro x hx;unfold cO at hx;rcases List.mem_or_eq_of_mem_set hx with h | h
  ·exact hz x h
  ·rw [h];exact lf hm r
end Go.Proofs.YtllbdpdnpaocnaaGreatDoor
