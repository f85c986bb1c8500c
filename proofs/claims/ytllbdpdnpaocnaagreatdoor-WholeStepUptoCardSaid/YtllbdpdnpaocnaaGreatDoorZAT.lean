/- Part of the proof of WholeStep. -/
import Derived.Test.YtllbdpdnpaocnaaGreatDoorZAS
namespace Go.Proofs.YtllbdpdnpaocnaaGreatDoor
set_option linter.unusedSimpArgs false
set_option linter.unusedVariables false
set_option linter.constructorNameAsVariable false
open Go.RowKit Go.Maps
theorem gZ (n lo hi:Int) (w:World):Calls Tryz.prog 58 #[.int .i64 n,.int .i64 lo,.int .i64 hi] w fun e w'=>e=.returned (.bool (dt n lo hi))∧w=w':=by
 unfold dt;go_enter Tryz.func58,Tryz.ntmps58;by_cases h1:lo≤n
 ·by_cases h2:n≤hi
  ·go_wp2_with fail
   go_ret;exact ⟨by simp [h1,h2],rfl⟩
  ·go_wp2_with fail
   go_ret;exact ⟨by simp [h1,h2],rfl⟩
 ·go_wp2_with fail
  go_ret;exact ⟨by simp [h1];omega,rfl⟩
theorem em (n:Int) (w:World):Calls Tryz.prog 125 #[.int .i64 n] w fun e w'=>e=.returned (.bool (dt n (-2147483648) 2147483647))∧w=w':=by
 go_enter Tryz.func125,Tryz.ntmps125;go_wp2_with (go_at_call 58;refine (gZ _ _ _ _).mono ?_;rintro e w' ⟨rfl,rfl⟩)
 go_ret;exact ⟨rfl,rfl⟩
def iJ (e:Ending):Prop:=∃(n:Int) (s:ByteArray),e=.returned (.agg #[.int .i64 n,.string s])
theorem mh (w:World):(Instr.build 69 #[]).run Tryz.prog w=.ok (.agg #[.int .i64 0,.string ⟨#[]⟩]) w:=by kernel_rfl
theorem al (n:Int) (s:ByteArray):(Tryz.prog.info? 69).map (·.size)=some ([.int .i64 n,.string s]:List Value).length:=by kernel_rfl
set_option maxRecDepth 20000 in
theorem ca (w:World):Calls Tryz.prog 60 #[] w fun e w'=>e=.returned (.agg #[.int .i64 0,.string ⟨#[]⟩])∧Below w.heap.size w w':=by
 obtain ⟨z,hz⟩:∃z,w.heap.size=z:=⟨_,rfl⟩;obtain ⟨w1,hw1⟩:∃w1,w.alloc (.cells #[.int .i64 0,.string ⟨#[]⟩] 69)=w1:=⟨_,rfl⟩;have hk:Bk w1 z 69 [.int .i64 0,.string ⟨#[]⟩]:=hw1▸Bk.at_ w _ _ hz rfl;have hb:Below w.heap.size w w1:=hw1▸ai w _;have HW:=aa hw1;have HB:=aa hb;have HZ:=aa hz;have HK:=aa hk;clear hk hw1 hz hb;go_enter Tryz.func60,Tryz.ntmps60;go_upto_region 1 with fail
 rw [HW.out,HZ.out];go_wp2_with (first | ((with_reducible refine aS rfl 69 _ rfl #[] ?_ _ (mh _) ?_);focus (simp [Act.eval,Act.put];done)) | (with_reducible refine ah 69 _ _ rfl ?_))
 refine ak.go ?_;refine ae rfl 69 _ _ rfl z 0 (.agg #[.int .i64 0,.string ⟨#[]⟩]) [.int .i64 0,.string ⟨#[]⟩] rfl rfl rfl 69 [] [.int .i64 0,.string ⟨#[]⟩] [] (by simpa using HK.out) rfl rfl (al _ _) (by intro v hv;simp at hv;rcases hv with rfl | rfl <;> rfl) ?_;intro w4 hp;have hbk:Bk w4 z 69 [.int .i64 0,.string ⟨#[]⟩]:=by have:=hp.bk;simpa using this
 have HBK:=aa hbk;have HB4:Hid (Below w.heap.size w w4):=ag HB.out hp.only HB.size (by have:=HZ.out;omega);clear hp hbk;go_wp2_with fail
 refine bodyPost_ret (am rfl _ _ z 69 [.int .i64 0,.string ⟨#[]⟩] _ rfl HBK.out Tryz.underlying69 rfl (al _ _)) rfl ?_;exact ⟨rfl,HB4.out⟩
set_option maxRecDepth 20000 in
theorem ki (w:World) (B:Nat) (A:Option Addr) (N C:Nat) (l:List VaT) (s:ByteArray) (h:el w B A N l) (hN:N≤1048576):Calls Tryz.prog 124 #[.slice A N C,.string s] w fun e w'=>fq e∧w=w':=by
 have HV:=aa h;clear h;go_enter Tryz.func124,Tryz.ntmps124;go_wp2_with fail
 go_loop [5] (fun i=>∃k:Nat,k≤N∧i=.int .i64 k) (fun i=>N - (intOf i).toNat);case atStart=>exact ⟨0,Nat.zero_le _,rfl⟩
 case round=>
  obtain ⟨k,hk,rfl⟩:=hrel;by_cases hlt:k < N
  ·obtain ⟨b,o,x,hA,hb,hr,hx,hok⟩:=HV.spot hlt;have c0:w.cell? ⟨b,o+k*4,none⟩=some (.string x.nm):=hr 0 _ rfl;have hkN:(k:Int) < N:=by omega
   subst hA;clear hr hx hok;cases ht:(x.nm.toList == s.toList)
   ·go_wp2_with fail
    go_round;case rel=>exact ⟨k+1,by omega,by go_num⟩
    case measure=>simp [intOf];omega
   ·go_wp2_with fail
    go_ret;exact ⟨⟨_,rfl⟩,rfl⟩
  ·go_wp2_with fail
   go_ret;exact ⟨⟨_,rfl⟩,rfl⟩
theorem qd (c:Int) (w:World):Calls Tryz.prog 188 #[.int .u8 c] w fun e w'=>fq e∧w=w':=by go_enter Tryz.func188,Tryz.ntmps188;by_cases h1:97≤c <;> by_cases h2:c≤122 <;> by_cases h3:65≤c <;> by_cases h4:c≤90 <;> (go_wp2_with fail;go_ret;exact ⟨⟨_,rfl⟩,rfl⟩)
theorem rQ (c:Int) (w:World):Calls Tryz.prog 189 #[.int .u8 c] w fun e w'=>fq e∧w=w':=by go_enter Tryz.func189,Tryz.ntmps189;by_cases h1:48≤c <;> by_cases h2:c≤57 <;> (go_wp2_with fail;go_ret;exact ⟨⟨_,rfl⟩,rfl⟩)
set_option maxRecDepth 20000 in
theorem wE (w:World) (b o N C:Nat) (L:List ByteArray) (s:ByteArray) (hl:L.length=N) (h:∀k x,L[k]?=some x→w.cell? ⟨b,o+k,none⟩=some (.string x)) (hN:N≤1048576):Calls Tryz.prog 122 #[.slice (some ⟨b,o,none⟩) N C,.string s] w fun e w'=>fq e∧w=w':=by
 have HV:=aa h;have HL:=aa hl;clear h hl;go_enter Tryz.func122,Tryz.ntmps122;go_wp2_with fail
 go_loop [5] (fun i=>∃k:Nat,k≤N∧i=.int .i64 k) (fun i=>N - (intOf i).toNat);case atStart=>exact ⟨0,Nat.zero_le _,rfl⟩
 case round=>
  obtain ⟨k,hk,rfl⟩:=hrel;by_cases hlt:k < N
  ·obtain ⟨x,hx⟩:∃x,L[k]?=some x:=⟨L[k]'(by rw [HL.out];exact hlt),List.getElem?_eq_getElem _⟩;have c0:=HV.out k x hx;have hkN:(k:Int) < N:=by omega
   clear hx;cases ht:(x.toList == s.toList)
   ·go_wp2_with fail
    go_round;case rel=>exact ⟨k+1,by omega,by go_num⟩
    case measure=>simp [intOf];omega
   ·go_wp2_with fail
    go_ret;exact ⟨⟨_,rfl⟩,rfl⟩
  ·go_wp2_with fail
   go_ret;exact ⟨⟨_,rfl⟩,rfl⟩
set_option maxRecDepth 20000 in
theorem wF (s:ByteArray) (hs:s.size≤1048576) (w:World):Calls Tryz.prog 121 #[.string s] w fun e w'=>fq e∧w=w':=by
 go_enter Tryz.func121,Tryz.ntmps121;go_wp2_with fail
 go_loop [3] (fun i=>∃k:Nat,k≤s.size∧i=.int .i64 k) (fun i=>s.size - (intOf i).toNat);case atStart=>exact ⟨0,Nat.zero_le _,rfl⟩
 case round=>
  obtain ⟨k,hk,rfl⟩:=hrel;by_cases hlt:k < s.size
  ·have hki:(k:Int) < s.size:=by omega
   go_wp2_with fail
   refine (qd _ w).mono ?_;rintro e w' ⟨⟨x,rfl⟩,rfl⟩;cases x with
   | true=>
    go_wp2_with fail
    go_round;case rel=>exact ⟨k+1,by omega,by go_num⟩
    case measure=>simp [intOf];omega
   | false=>
    cases h0:((k:Int) == 0) with
    | true=>
     go_wp2_with fail
     go_ret;exact ⟨⟨_,rfl⟩,rfl⟩
    | false=>
     go_wp2_with fail
     refine (rQ _ w).mono ?_;rintro e w' ⟨⟨y,rfl⟩,rfl⟩;cases y with
     | true=>
      go_wp2_with fail
      go_round;case rel=>exact ⟨k+1,by omega,by go_num⟩
      case measure=>simp [intOf];omega
     | false=>
      by_cases h5:(s[k].toNat:Int)=95
      ·go_wp2_with fail
       go_round;case rel=>exact ⟨k+1,by omega,by go_num⟩
       case measure=>simp [intOf];omega
      ·go_wp2_with fail
       go_ret;exact ⟨⟨_,rfl⟩,rfl⟩
  ·go_wp2_with fail
   go_ret;exact ⟨⟨_,rfl⟩,rfl⟩
def oH:List ByteArray:=[⟨#[103,97,109,101]⟩,⟨#[115,101,97,116,115]⟩,⟨#[115,116,97,107,101]⟩,⟨#[118,97,114]⟩,⟨#[115,116,97,114,116]⟩,⟨#[116,117,114,110]⟩,⟨#[112,108,97,121]⟩,⟨#[115,105,108,101,110,116]⟩,⟨#[112,97,121]⟩,⟨#[101,110,100]⟩,⟨#[105,102]⟩,⟨#[116,104,101,110]⟩,⟨#[101,108,115,101]⟩,⟨#[102,111,114]⟩,⟨#[100,111]⟩,⟨#[114,101,102,117,115,101]⟩,⟨#[114,111,108,108]⟩,⟨#[115,101,97,116]⟩,⟨#[111,118,101,114]⟩,⟨#[114,101,115,116]⟩,⟨#[97,110,100]⟩,⟨#[111,114]⟩,⟨#[110,111,116]⟩]
theorem wG (w:World):(Instr.buildSlice 126 23 #[(0,.string ⟨#[103,97,109,101]⟩),(1,.string ⟨#[115,101,97,116,115]⟩),(2,.string ⟨#[115,116,97,107,101]⟩),(3,.string ⟨#[118,97,114]⟩),(4,.string ⟨#[115,116,97,114,116]⟩),(5,.string ⟨#[116,117,114,110]⟩),(6,.string ⟨#[112,108,97,121]⟩),(7,.string ⟨#[115,105,108,101,110,116]⟩),(8,.string ⟨#[112,97,121]⟩),(9,.string ⟨#[101,110,100]⟩),(10,.string ⟨#[105,102]⟩),(11,.string ⟨#[116,104,101,110]⟩),(12,.string ⟨#[101,108,115,101]⟩),(13,.string ⟨#[102,111,114]⟩),(14,.string ⟨#[100,111]⟩),(15,.string ⟨#[114,101,102,117,115,101]⟩),(16,.string ⟨#[114,111,108,108]⟩),(17,.string ⟨#[115,101,97,116]⟩),(18,.string ⟨#[111,118,101,114]⟩),(19,.string ⟨#[114,101,115,116]⟩),(20,.string ⟨#[97,110,100]⟩),(21,.string ⟨#[111,114]⟩),(22,.string ⟨#[110,111,116]⟩)]).run Tryz.prog w=.ok (.slice (some ⟨w.heap.size,0,none⟩) 23 23) (w.alloc (.cells (oH.map Value.string).toArray 9)):=by kernel_rfl
set_option maxRecDepth 20000 in
theorem rR (w:World):Calls Tryz.prog 123 #[] w fun e w'=>(∃q,e=.returned (.slice (some ⟨q,0,none⟩) 23 23)∧Bk w' q 9 (oH.map .string))∧Below w.heap.size w w':=by
 go_enter Tryz.func123,Tryz.ntmps123;go_wp2_with (with_reducible refine a8 126 _ _ rfl ?_)
 refine ak.go ?_;refine ar rfl 126 23 _ rfl #[(0,.string ⟨#[103,97,109,101]⟩),(1,.string ⟨#[115,101,97,116,115]⟩),(2,.string ⟨#[115,116,97,107,101]⟩),(3,.string ⟨#[118,97,114]⟩),(4,.string ⟨#[115,116,97,114,116]⟩),(5,.string ⟨#[116,117,114,110]⟩),(6,.string ⟨#[112,108,97,121]⟩),(7,.string ⟨#[115,105,108,101,110,116]⟩),(8,.string ⟨#[112,97,121]⟩),(9,.string ⟨#[101,110,100]⟩),(10,.string ⟨#[105,102]⟩),(11,.string ⟨#[116,104,101,110]⟩),(12,.string ⟨#[101,108,115,101]⟩),(13,.string ⟨#[102,111,114]⟩),(14,.string ⟨#[100,111]⟩),(15,.string ⟨#[114,101,102,117,115,101]⟩),(16,.string ⟨#[114,111,108,108]⟩),(17,.string ⟨#[115,101,97,116]⟩),(18,.string ⟨#[111,118,101,114]⟩),(19,.string ⟨#[114,101,115,116]⟩),(20,.string ⟨#[97,110,100]⟩),(21,.string ⟨#[111,114]⟩),(22,.string ⟨#[110,111,116]⟩)] ?_ 9 (oH.map .string) (fun w=>wG w) ?_
 ·first | kernel_rfl | simp [Act.eval,Act.put]
 intro q2 w2 hq2 hb2 hbn;have HK2:=aa hb2;have HB2:=aa hbn;clear hq2 hb2 hbn;go_wp2_with fail
 go_ret;exact ⟨⟨q2,rfl,HK2.out⟩,HB2.out⟩
set_option maxRecDepth 20000 in
theorem fu (s:ByteArray) (hs:s.size≤1048576) (w:World):Calls Tryz.prog 57 #[.string s] w fun e w'=>fq e∧Below w.heap.size w w':=by
 go_enter Tryz.func57,Tryz.ntmps57;go_wp2_with fail
 refine (wF s hs w).mono ?_;rintro e w' ⟨⟨x,rfl⟩,rfl⟩;cases x with
 | false=>
  go_wp2_with fail
  go_ret;exact ⟨⟨_,rfl⟩,Below.refl _ _⟩
 | true=>
  by_cases h30:(s.size:Int)≤30
  ·go_wp2_with fail
   refine (rR w).mono ?_;rintro e w2 ⟨⟨q,rfl,hk⟩,hbn⟩;have HK:=aa hk;have HB:=aa hbn;clear hk hbn;go_wp2_with fail
   refine (wE w2 q 0 23 23 oH s rfl (fun k x hx=>by rw [Nat.zero_add,HK.cell k,List.getElem?_map,hx];rfl) (by omega)).mono ?_;rintro e w' ⟨⟨x,rfl⟩,rfl⟩;go_wp2_with fail
   go_ret;exact ⟨⟨_,rfl⟩,HB.out⟩
  ·go_wp2_with fail
   go_ret;exact ⟨⟨_,rfl⟩,Below.refl _ _⟩
theorem el.take {w:World} {B N:Nat} {A:Option Addr} {l:List VaT} (h:el w B A N l) {k:Nat} (hk:k≤N):el w B A k (l.take k):=by
 have hl:=h.len;have e:l.flatMap vaC=(l.take k).flatMap vaC ++ (l.drop k).flatMap vaC:=by rw [←List.flatMap_append,List.take_append_drop]
 have hlen:∀m:List VaT,(m.flatMap vaC).length=m.length*4:=fun m=>by
  induction m with
  | nil=>rfl
  | cons x m ih=>rw [List.flatMap_cons,List.length_append,ih,List.length_cons];simp [vaC];omega
 refine ⟨⟨by rw [hlen,List.length_take];omega,by have:=h.sl.le;omega,fun hn=>?_⟩,fun v hv=>h.ok v (List.mem_of_mem_take hv)⟩;obtain ⟨ad,e1,hb,hc⟩:=h.sl.mem (by omega);exact ⟨ad,e1,hb,fun j u hu=>hc j u (by rw [e,List.getElem?_append_left (List.getElem?_eq_some_iff.1 hu).1];exact hu)⟩
theorem fK (n:Int) (s:ByteArray) (w:World):(Instr.build 69 #[(0,.int .i64 n),(1,.string s)]).run Tryz.prog w=.ok (.agg #[.int .i64 n,.string s]) w:=by kernel_rfl
theorem ax (n:Int) (s:ByteArray):∀v∈([.int .i64 n,.string s]:List Value),v.oneCell'=true:=by intro v hv;simp at hv;rcases hv with rfl | rfl <;> rfl
theorem kj (n:Int) (s:ByteArray):∃b:Bool,∀w,(Op.equalIn 10000 69 (.agg #[.int .i64 n,.string s]) (.agg #[.int .i64 0,.string ⟨#[]⟩])).run Tryz.prog w=.ok b w:=by
 refine ⟨(n == 0) && (s.toList == (⟨#[]⟩:ByteArray).toList),fun w=>?_⟩;rw [run_equalIn_struct _ 9999 _ _ _ (by kernel_rfl) (by kernel_rfl)];obtain ⟨f0,f1,hf,t0,t1,o0,o1,n0,n1⟩:∃f0 f1:Field,(Tryz.prog.fieldsOf 69).toList=[f0,f1]∧f0.type=3∧f1.type=9∧f0.offset=0∧f1.offset=1∧(f0.name == "_")=false∧(f1.name == "_")=false:=⟨(Tryz.prog.fieldsOf 69)[0]!,(Tryz.prog.fieldsOf 69)[1]!,by kernel_rfl,by kernel_rfl,by kernel_rfl,by kernel_rfl,by kernel_rfl,by kernel_rfl,by kernel_rfl⟩;have n0' : f0.name≠ "_":=by intro e;rw [e] at n0;simp at n0
 have n1' : f1.name≠ "_":=by intro e;rw [e] at n1;simp at n1
 rw [hf];have p0:∀(n:Int) (s:ByteArray) w,(part 3 #[.int .i64 n,.string s] 0).run Tryz.prog w=.ok (.int .i64 n) w:=fun n s w=>by kernel_rfl
 have p1:∀(n:Int) (s:ByteArray) w,(part 9 #[.int .i64 n,.string s] 1).run Tryz.prog w=.ok (.string s) w:=fun n s w=>by kernel_rfl
 have q0:∀(n m:Int) w,(Op.equalIn 9999 3 (.int .i64 n) (.int .i64 m)).run Tryz.prog w=.ok (n == m) w:=fun n m w=>run_equalIn_int w 9998 _ _ _ _ _ Tryz.underlying3;have q1:∀(n m:ByteArray) w,(Op.equalIn 9999 9 (.string n) (.string m)).run Tryz.prog w=.ok (n.toList == m.toList) w:=fun n m w=>run_equalIn_string w 9998 _ _ _ Tryz.underlying9;cases h1:(n == 0) <;> cases h2:(s.toList == (⟨#[]⟩:ByteArray).toList) <;>
  simp only [Op.eqFields,ne_eq,n0',n1',not_false_eq_true,if_true,Sem.run_bind,t0,t1,o0,o1,p0,p1,q0,q1,Result.andThen_ok,h1,h2,Bool.not_true,Bool.not_false,Bool.false_eq_true,if_false,Sem.run_pure,Bool.and_true,Bool.and_false]
set_option maxRecDepth 20000 in
set_option maxHeartbeats 1000000 in
theorem ug (w:World) (A:Option Addr) (N C:Nat) (l:List VaT) (h:el w w.heap.size A N l) (hN:N≤1048576) (hNC:N≤C):Calls Tryz.prog 59 #[.slice A N C] w fun e w'=>iJ e∧Below w.heap.size w w':=by
 obtain ⟨z,hz⟩:∃z,w.heap.size=z:=⟨_,rfl⟩;obtain ⟨w1,hw1⟩:∃w1,w.alloc (.cells #[.int .i64 0,.string ⟨#[]⟩] 69)=w1:=⟨_,rfl⟩;have hk:Bk w1 z 69 [.int .i64 0,.string ⟨#[]⟩]:=hw1▸Bk.at_ w _ _ hz rfl;have hb:Below w.heap.size w w1:=hw1▸ai w _;have HW:=aa hw1;have HB:=aa hb;have HZ:=aa hz;have HK:=aa hk;have HV:=aa (h.below hb);have hbf:=fK;clear hk hw1 hz hb h;go_enter Tryz.func59,Tryz.ntmps59;go_upto_region 1 with fail
 rw [HW.out,HZ.out];go_wp2_with fail
 go_loopw [3,4,5] (fun t i _ wr=>∃(k:Nat) (q:Int),k≤N∧i=.int .i64 k∧t=.int .i64 q∧Hid (Below w1.heap.size w1 wr)) (fun _ i _ _=>N - (intOf i).toNat)
 case atStart=>exact ⟨0,0,Nat.zero_le _,rfl,rfl,Below.refl _ _⟩
 case round=>
  obtain ⟨k,q,hk,rfl,rfl,hB⟩:=hrel;by_cases hlt:k < N
  ·obtain ⟨b,o,x,hA,hb,hr,hx,hok⟩:=(HV.below (hB.out.mono HB.size)).spot hlt;have HR:=aa hr;have hnm:=hok.nm;have hkN:(k:Int) < N:=by omega
   subst hA;clear hr hx hok;go_wp2_with (first | (with_reducible refine wpList_load_mid rfl 81 _ rfl b (o+k*4) rfl (vaC x) _ HR.out Tryz.underlying81 rfl (bQ x) ?_) | (with_reducible refine ah 81 _ _ rfl ?_))
   refine ak.go ?_;obtain ⟨g3,hg3⟩:∃q,wr.heap.size=q:=⟨_,rfl⟩;rw [hg3];refine an 81 _ _ rfl g3 hg3 (vaC x) rfl rfl rfl rfl (bQ x) (bw x) ?_;intro w3 hk hbn;have HK3:=aa hk;have HB3:=aa hbn;clear hk hbn;have e0:w3.cell? ⟨g3,0,none⟩=some (.string x.nm):=HK3.cell 0;go_wp2_with fail
   refine (fu x.nm hnm w3).mono ?_;rintro e w4 ⟨⟨y4,rfl⟩,hbn⟩;have HB4:=aa (ab hB.out (ab HB3.out hbn));have HK4:=aa (HK3.later hbn);clear hbn e0;cases y4 with
   | false=>
    have e0:w4.cell? ⟨g3,0,none⟩=some (.string x.nm):=HK4.cell 0;go_wp2_with (with_reducible refine ah 69 _ _ rfl ?_)
    refine ak.go ?_;refine ae rfl 69 _ _ rfl (z) 0 (.agg #[.int .i64 6,.string x.nm]) [.int .i64 6,.string x.nm] rfl rfl rfl 69 [] [.int .i64 0,.string ⟨#[]⟩] [] (by simpa using HK.later HB4.out) rfl rfl (al _ _) (ax _ _) ?_;intro wz hp;have hbk:Bk wz (z) 69 [.int .i64 6,.string x.nm]:=by have:=hp.bk;simpa using this
    have HBKz:=aa hbk;have HBz:=aa (ag (ab HB.out (HB4.out)) hp.only (ab HB.out (HB4.out)).size (by have:=HZ.out;omega));clear hp hbk;go_wp2_with fail
    refine bodyPost_ret (am rfl _ _ (z) 69 [.int .i64 6,.string x.nm] _ rfl HBKz.out Tryz.underlying69 rfl (al _ _)) rfl ?_;exact ⟨⟨_,_,rfl⟩,HBz.out⟩
   | true=>
    go_wp2_with fail
    refine wp_region_held_drew (S:=fun wk=>wk.cell? ⟨g3,0,none⟩=some (.string x.nm)) (by kernel_rfl) ((HK4.later (ac w4 _ 1)).cell 0) (fun hHeld=>?_);obtain ⟨w5,hw5⟩:∃wa,w4.drew=wa:=⟨_,rfl⟩;have hb5:Below w4.heap.size w4 w5:=hw5▸ac w4 w4.heap.size 1;rw [hw5] at hHeld ⊢;have HB5:=aa (ab HB4.out hb5);have HK5:=aa (HK4.later hb5);clear hw5 hb5;have hkC:(k:Int)≤C:=by omega
    refine tk 0 ?_;refine tk 1 ?_;refine tk 3 ?_;refine tkv 4 rfl (fun w hSw=>by have hcell:=hSw;clear hSw;go_simp;try with_reducible rfl) ?_;refine tk 2 ?_;refine rd1 5 (fun K hK=>?_);go_simp
    (refine (ki w5 w.heap.size _ k C (l.take k) x.nm (((HV.below (HB5.mono HB.size))).take (by omega)) (by omega)).mono ?_;rintro e w' ⟨⟨y5,rfl⟩,rfl⟩)
    refine so hK (HK5.cell 0) (fun hHeld=>?_);clear hK K;refine wpAnyH_done rfl ?_ _;cases y5 with
    | true=>
     have e0:w5.cell? ⟨g3,0,none⟩=some (.string x.nm):=HK5.cell 0;go_wp2_with (with_reducible refine ah 69 _ _ rfl ?_)
     refine ak.go ?_;refine ae rfl 69 _ _ rfl (z) 0 (.agg #[.int .i64 7,.string x.nm]) [.int .i64 7,.string x.nm] rfl rfl rfl 69 [] [.int .i64 0,.string ⟨#[]⟩] [] (by simpa using HK.later HB5.out) rfl rfl (al _ _) (ax _ _) ?_;intro wz hp;have hbk:Bk wz (z) 69 [.int .i64 7,.string x.nm]:=by have:=hp.bk;simpa using this
     have HBKz:=aa hbk;have HBz:=aa (ag (ab HB.out (HB5.out)) hp.only (ab HB.out (HB5.out)).size (by have:=HZ.out;omega));clear hp hbk;go_wp2_with fail
     refine bodyPost_ret (am rfl _ _ (z) 69 [.int .i64 7,.string x.nm] _ rfl HBKz.out Tryz.underlying69 rfl (al _ _)) rfl ?_;exact ⟨⟨_,_,rfl⟩,HBz.out⟩
    | false=>
     have e1:w5.cell? ⟨g3,1,none⟩=some (.int .i64 x.sz):=HK5.cell 1;have e2:w5.cell? ⟨g3,2,none⟩=some (.int .i64 x.lo):=HK5.cell 2;have e3:w5.cell? ⟨g3,3,none⟩=some (.int .i64 x.hi):=HK5.cell 3;have e0:w5.cell? ⟨g3,0,none⟩=some (.string x.nm):=HK5.cell 0;go_wp2_with fail
     refine (gZ _ _ _ w5).mono ?_;rintro e w' ⟨rfl,rfl⟩;cases dt x.sz 0 64 with
     | false=>
      go_wp2_with (with_reducible refine ah 69 _ _ rfl ?_)
      refine ak.go ?_;refine ae rfl 69 _ _ rfl (z) 0 (.agg #[.int .i64 2,.string x.nm]) [.int .i64 2,.string x.nm] rfl rfl rfl 69 [] [.int .i64 0,.string ⟨#[]⟩] [] (by simpa using HK.later HB5.out) rfl rfl (al _ _) (ax _ _) ?_;intro wz hp;have hbk:Bk wz (z) 69 [.int .i64 2,.string x.nm]:=by have:=hp.bk;simpa using this
      have HBKz:=aa hbk;have HBz:=aa (ag (ab HB.out (HB5.out)) hp.only (ab HB.out (HB5.out)).size (by have:=HZ.out;omega));clear hp hbk;go_wp2_with fail
      refine bodyPost_ret (am rfl _ _ (z) 69 [.int .i64 2,.string x.nm] _ rfl HBKz.out Tryz.underlying69 rfl (al _ _)) rfl ?_;exact ⟨⟨_,_,rfl⟩,HBz.out⟩
     | true=>
      go_wp2_with fail
      refine (em _ w5).mono ?_;rintro e w' ⟨rfl,rfl⟩;cases dt x.lo (-2147483648) 2147483647 with
      | false=>
       go_wp2_with (with_reducible refine ah 69 _ _ rfl ?_)
       refine ak.go ?_;refine ae rfl 69 _ _ rfl (z) 0 (.agg #[.int .i64 2,.string x.nm]) [.int .i64 2,.string x.nm] rfl rfl rfl 69 [] [.int .i64 0,.string ⟨#[]⟩] [] (by simpa using HK.later HB5.out) rfl rfl (al _ _) (ax _ _) ?_;intro wz hp;have hbk:Bk wz (z) 69 [.int .i64 2,.string x.nm]:=by have:=hp.bk;simpa using this
       have HBKz:=aa hbk;have HBz:=aa (ag (ab HB.out (HB5.out)) hp.only (ab HB.out (HB5.out)).size (by have:=HZ.out;omega));clear hp hbk;go_wp2_with fail
       refine bodyPost_ret (am rfl _ _ (z) 69 [.int .i64 2,.string x.nm] _ rfl HBKz.out Tryz.underlying69 rfl (al _ _)) rfl ?_;exact ⟨⟨_,_,rfl⟩,HBz.out⟩
      | true=>
       go_wp2_with fail
       refine (em _ w5).mono ?_;rintro e w' ⟨rfl,rfl⟩;cases dt x.hi (-2147483648) 2147483647 with
       | false=>
        go_wp2_with (with_reducible refine ah 69 _ _ rfl ?_)
        refine ak.go ?_;refine ae rfl 69 _ _ rfl (z) 0 (.agg #[.int .i64 2,.string x.nm]) [.int .i64 2,.string x.nm] rfl rfl rfl 69 [] [.int .i64 0,.string ⟨#[]⟩] [] (by simpa using HK.later HB5.out) rfl rfl (al _ _) (ax _ _) ?_;intro wz hp;have hbk:Bk wz (z) 69 [.int .i64 2,.string x.nm]:=by have:=hp.bk;simpa using this
        have HBKz:=aa hbk;have HBz:=aa (ag (ab HB.out (HB5.out)) hp.only (ab HB.out (HB5.out)).size (by have:=HZ.out;omega));clear hp hbk;go_wp2_with fail
        refine bodyPost_ret (am rfl _ _ (z) 69 [.int .i64 2,.string x.nm] _ rfl HBKz.out Tryz.underlying69 rfl (al _ _)) rfl ?_;exact ⟨⟨_,_,rfl⟩,HBz.out⟩
       | true=>
        by_cases hgt:x.hi < x.lo
        ·
         go_wp2_with (with_reducible refine ah 69 _ _ rfl ?_)
         refine ak.go ?_;refine ae rfl 69 _ _ rfl (z) 0 (.agg #[.int .i64 2,.string x.nm]) [.int .i64 2,.string x.nm] rfl rfl rfl 69 [] [.int .i64 0,.string ⟨#[]⟩] [] (by simpa using HK.later HB5.out) rfl rfl (al _ _) (ax _ _) ?_;intro wz hp;have hbk:Bk wz (z) 69 [.int .i64 2,.string x.nm]:=by have:=hp.bk;simpa using this
         have HBKz:=aa hbk;have HBz:=aa (ag (ab HB.out (HB5.out)) hp.only (ab HB.out (HB5.out)).size (by have:=HZ.out;omega));clear hp hbk;go_wp2_with fail
         refine bodyPost_ret (am rfl _ _ (z) 69 [.int .i64 2,.string x.nm] _ rfl HBKz.out Tryz.underlying69 rfl (al _ _)) rfl ?_;exact ⟨⟨_,_,rfl⟩,HBz.out⟩
        ·go_wp2_with (with_reducible refine aj rfl 81 _ rfl g3 rfl (vaC x) 81 HK5.out _ Tryz.underlying81 rfl (bQ x) ?_)
         refine (iI w5 x).mono ?_;rintro e w6 ⟨rfl,hbn⟩;have HB6:=aa (ab HB5.out hbn);clear hbn e0 e1 e2 e3;go_wp2_with fail
         go_roundw
         case rel=>exact ⟨k+1,_,by omega,by go_num,rfl,HB6.out⟩
         case measure=>simp [intOf];omega
  ·by_cases h64:(64:Int) < q
   ·
    go_wp2_with (with_reducible refine ah 69 _ _ rfl ?_)
    refine ak.go ?_;refine ae rfl 69 _ _ rfl (z) 0 (.agg #[.int .i64 8,.string ⟨#[118,97,114]⟩]) [.int .i64 8,.string ⟨#[118,97,114]⟩] rfl rfl rfl 69 [] [.int .i64 0,.string ⟨#[]⟩] [] (by simpa using HK.later hB.out) rfl rfl (al _ _) (ax _ _) ?_;intro wz hp;have hbk:Bk wz (z) 69 [.int .i64 8,.string ⟨#[118,97,114]⟩]:=by have:=hp.bk;simpa using this
    have HBKz:=aa hbk;have HBz:=aa (ag (ab HB.out (hB.out)) hp.only (ab HB.out (hB.out)).size (by have:=HZ.out;omega));clear hp hbk;go_wp2_with fail
    refine bodyPost_ret (am rfl _ _ (z) 69 [.int .i64 8,.string ⟨#[118,97,114]⟩] _ rfl HBKz.out Tryz.underlying69 rfl (al _ _)) rfl ?_;exact ⟨⟨_,_,rfl⟩,HBz.out⟩
   ·
    go_wp2_with fail
    refine (ca _).mono ?_;rintro e wf ⟨rfl,hbn⟩;have HBf:=aa (ab hB.out hbn);clear hbn;go_wp2_with (with_reducible refine ah 69 _ _ rfl ?_)
    refine ak.go ?_;refine ae rfl 69 _ _ rfl (z) 0 (.agg #[.int .i64 0,.string ⟨#[]⟩]) [.int .i64 0,.string ⟨#[]⟩] rfl rfl rfl 69 [] [.int .i64 0,.string ⟨#[]⟩] [] (by simpa using HK.later HBf.out) rfl rfl (al _ _) (ax _ _) ?_;intro wz hp;have hbk:Bk wz (z) 69 [.int .i64 0,.string ⟨#[]⟩]:=by have:=hp.bk;simpa using this
    have HBKz:=aa hbk;have HBz:=aa (ag (ab HB.out (HBf.out)) hp.only (ab HB.out (HBf.out)).size (by have:=HZ.out;omega));clear hp hbk;go_wp2_with fail
    refine bodyPost_ret (am rfl _ _ (z) 69 [.int .i64 0,.string ⟨#[]⟩] _ rfl HBKz.out Tryz.underlying69 rfl (al _ _)) rfl ?_;exact ⟨⟨_,_,rfl⟩,HBz.out⟩
set_option maxRecDepth 20000 in
set_option maxHeartbeats 1000000 in
theorem uh (w:World) (p:PgT) (h:cI w w.heap.size p):Calls Tryz.prog 126 #[.agg (pgC p).toArray] w fun e w'=>il e∧Below w.heap.size w w':=by
 obtain ⟨z,hz⟩:∃z,w.heap.size=z:=⟨_,rfl⟩;obtain ⟨w1,hw1⟩:∃w1,w.alloc (.cells (pgC p).toArray 26)=w1:=⟨_,rfl⟩;have hk:Bk w1 z 26 (pgC p):=hw1▸Bk.at_ w _ _ hz rfl;have hb:Below w.heap.size w w1:=hw1▸ai w _;have HW:=aa hw1;have HB:=aa hb;have HV:=aa (h.pa.below hb);have HK:=aa hk;have HZ:=aa hz;have hN2:p.pa.N≤1048576:=by have:=h.few;have:=h.pa.len;unfold PgT.size at *; omega
 clear hk hw1 h hb hz;go_enter Tryz.func126,Tryz.ntmps126;go_upto_region 1 with fail
 rw [HW.out,HZ.out];go_wp2_with fail
 go_loopw [4,5] (fun i _ wr=>∃k:Nat,k≤p.pa.N∧i=.int .i64 k∧Hid (Below w1.heap.size w1 wr)) (fun i _ _=>p.pa.N - (intOf i).toNat)
 case atStart=>exact ⟨0,Nat.zero_le _,rfl,Below.refl _ _⟩
 case round=>
  obtain ⟨k,hk,rfl,hB⟩:=hrel;have c6:wr.cell? ⟨z,6,none⟩=some (.slice p.pa.A p.pa.N p.pa.C):=(HK.later hB.out).cell 6;by_cases hlt:k < p.pa.N
  ·obtain ⟨b,o,x,hA,hb,hr,hx,hok⟩:=(HV.below (hB.out.mono HB.size)).spot hlt;have HR:=aa hr;have hkN:(k:Int) < p.pa.N:=by omega
   rw [hA] at c6;clear hr hx hok hA;go_wp2_with (first | (with_reducible refine wpList_load_mid rfl 81 _ rfl b (o+k*4) rfl (vaC x) _ HR.out Tryz.underlying81 rfl (bQ x) ?_) | (with_reducible refine ah 81 _ _ rfl ?_))
   refine ak.go ?_;obtain ⟨g3,hg3⟩:∃q,wr.heap.size=q:=⟨_,rfl⟩;rw [hg3];refine an 81 _ _ rfl g3 hg3 (vaC x) rfl rfl rfl rfl (bQ x) (bw x) ?_;intro w3 hk hbn;have HK3:=aa hk;have HB3:=aa hbn;clear hk hbn;have e2:w3.cell? ⟨g3,2,none⟩=some (.int .i64 x.lo):=HK3.cell 2;have e3:w3.cell? ⟨g3,3,none⟩=some (.int .i64 x.hi):=HK3.cell 3;by_cases hgt:x.hi < x.lo
   ·go_wp2_with fail
    go_ret;exact ⟨⟨_,rfl⟩,ab HB.out (ab hB.out HB3.out)⟩
   ·go_wp2_with fail
    go_roundw
    case rel=>exact ⟨k+1,by omega,by go_num,ab hB.out HB3.out⟩
    case measure=>simp [intOf];omega
  ·obtain ⟨w2,rfl⟩:∃x,x=wr:=⟨_,rfl⟩;have HB2:=aa hB.out;go_wp2_with fail
   clear c6 hB hlt;go_loopw [3,6,7] (fun n i _ wr=>∃(k:Nat) (q:Int),k≤p.pa.N∧i=.int .i64 k∧n=.int .i64 q∧Hid (Below w1.heap.size w1 wr)) (fun _ i _ _=>p.pa.N - (intOf i).toNat)
   case atStart=>exact ⟨0,1,Nat.zero_le _,rfl,rfl,HB2.out⟩
   case round=>
    obtain ⟨j,q,hj,rfl,rfl,hB⟩:=hrel;have c6:wr.cell? ⟨z,6,none⟩=some (.slice p.pa.A p.pa.N p.pa.C):=(HK.later hB.out).cell 6;by_cases hlt:j < p.pa.N
    ·obtain ⟨b,o,x,hA,hb,hr,hx,hok⟩:=(HV.below (hB.out.mono HB.size)).spot hlt;have HR:=aa hr;have hkN:(j:Int) < p.pa.N:=by omega
     rw [hA] at c6;clear hr hx hok hA;go_wp2_with (first | (with_reducible refine wpList_load_mid rfl 81 _ rfl b (o+j*4) rfl (vaC x) _ HR.out Tryz.underlying81 rfl (bQ x) ?_) | (with_reducible refine ah 81 _ _ rfl ?_))
     refine ak.go ?_;obtain ⟨g3,hg3⟩:∃q,wr.heap.size=q:=⟨_,rfl⟩;rw [hg3];refine an 81 _ _ rfl g3 hg3 (vaC x) rfl rfl rfl rfl (bQ x) (bw x) ?_;intro w3 hk hbn;have HK3:=aa hk;have HB3:=aa hbn;clear hk hbn;have e2:w3.cell? ⟨g3,2,none⟩=some (.int .i64 x.lo):=HK3.cell 2;have e3:w3.cell? ⟨g3,3,none⟩=some (.int .i64 x.hi):=HK3.cell 3;by_cases h6:600 < IntKind.u64.wrap (IntKind.u64.wrap x.hi - IntKind.u64.wrap x.lo)
     ·go_wp2_with fail
      go_roundw
      case rel=>exact ⟨j+1,_,by omega,by go_num,rfl,ab hB.out HB3.out⟩
      case measure=>simp [intOf];omega
     ·go_wp2_with fail
      go_roundw
      case rel=>exact ⟨j+1,_,by omega,by go_num,rfl,ab hB.out HB3.out⟩
      case measure=>simp [intOf];omega
    ·go_wp2_with fail
     go_ret;exact ⟨⟨_,rfl⟩,ab HB.out hB.out⟩
end Go.Proofs.YtllbdpdnpaocnaaGreatDoor
