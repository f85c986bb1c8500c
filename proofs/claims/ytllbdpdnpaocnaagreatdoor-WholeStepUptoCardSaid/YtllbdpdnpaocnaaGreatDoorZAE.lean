/- Part of the proof of WholeStep. -/
import Derived.Test.YtllbdpdnpaocnaaGreatDoorZAD
import Derived.Defers
import Derived.Recover
namespace Go.Proofs.YtllbdpdnpaocnaaGreatDoor
set_option linter.unusedSimpArgs false
set_option linter.unusedVariables false
set_option linter.constructorNameAsVariable false
open Go.RowKit
def rS (p:PgT):List (Sln × Ss):=[(p.st,p.stL),(p.tu,p.tuL),(p.pl,p.plL),(p.qu,p.quL),(p.py,p.pyL)]
def zY (p:PgT):Array Value:=#[.slice p.st.A p.st.N p.st.C,.slice p.tu.A p.tu.N p.tu.C,.slice p.pl.A p.pl.N p.pl.C,.slice p.qu.A p.qu.N p.qu.C,.slice p.py.A p.py.N p.py.C]
theorem yz {w:World} {B:Nat} {p:PgT} (h:cI w B p) {k:Nat} (hk:k < 5):∃(s:Sln) (F:Ss),(rS p)[k]?=some (s,F)∧(zY p)[k]?=some (.slice s.A s.N s.C)∧cE w B s.A s.N F∧s.N≤s.C:=by
 obtain ⟨_,_,c1,c2,_,c3,c4,c5⟩:=h.cap;match k,hk with
 | 0,_=>exact ⟨_,_,rfl,rfl,h.st,c1⟩
 | 1,_=>exact ⟨_,_,rfl,rfl,h.tu,c2⟩
 | 2,_=>exact ⟨_,_,rfl,rfl,h.pl,c3⟩
 | 3,_=>exact ⟨_,_,rfl,rfl,h.qu,c4⟩
 | 4,_=>exact ⟨_,_,rfl,rfl,h.py,c5⟩
def kM (l:List (Sln × Ss)):Nat:=(l.map fun x=>x.2.size).sum
theorem ny {l:List (Sln × Ss)} {k:Nat} {x:Sln × Ss} (h:l[k]?=some x):kM (l.take (k+1))=kM (l.take k)+x.2.size:=by unfold kM;rw [cF h];simp
theorem yA (l:List (Sln × Ss)) (k:Nat):kM (l.take k)≤kM l:=by
 have h:kM l=kM (l.take k)+kM (l.drop k):=by
  conv=>lhs;rw [←List.take_append_drop k l]
  unfold kM;rw [List.map_append,List.sum_append]
 omega
theorem uf (p:PgT):p.vrL.length+p.paL.length+kM (rS p)=p.size:=by simp [kM,rS,PgT.size];omega
set_option maxRecDepth 20000 in
theorem nz (w:World) (p:PgT) (h:cI w w.heap.size p):Calls Tryz.prog 50 #[.agg (pgC p).toArray] w fun e w'=>e=.returned (.int .i64 (p.size:Int))∧Below w.heap.size w w':=by
 obtain ⟨w1,hw1⟩:∃w1,w.alloc (.cells (pgC p).toArray 66)=w1:=⟨_,rfl⟩;have hk:Bk w1 w.heap.size 66 (pgC p):=hw1▸Bk.new' w _ _ rfl;have hb:Below w.heap.size w w1:=hw1▸ai w _;have h1:=h.later hb;have HW:=aa hw1;have HB:=aa hb;have HP:=aa h1;have HSZ:=aa (uf p);have hfew:=h.few;obtain ⟨v0,e5⟩:∃q,p.vr.N=q:=⟨_,rfl⟩;obtain ⟨v1,e6⟩:∃q,p.pa.N=q:=⟨_,rfl⟩;have HV:Hid (p.vrL.length=v0∧p.paL.length=v1):=⟨by rw [h.lens.1,e5],by rw [h.lens.2,e6]⟩;have hvs:v0+v1≤1048576:=by have:=HSZ.out;have:=HV.out;omega
 have HFEW:=aa hfew;have c3:=hk.cell 3;have c4:=hk.cell 4;have c5:=hk.cell 5;have c6:=hk.cell 6;have c7:=hk.cell 7;have c9:=hk.cell 9;have c10:=hk.cell 10;simp only [pgC,List.getElem?_cons_succ,List.getElem?_cons_zero,e5,e6] at c3 c4 c5 c6 c7 c9 c10;have hag:∀w,(isAgg 64).run Tryz.prog w=.ok false w:=fun w=>by simp [isAgg,run_underlying Tryz.underlying64]
 have HAG:=aa hag;have hs1:=yA (rS p);have HLE:=aa hs1;have htot:v0+v1+kM (rS p)≤1048576:=by have:=HSZ.out;have:=HV.out;have:=HFEW.out;omega
 clear hag hs1 hfew;clear e5 e6 hk hw1 h1 h hb;go_enter Tryz.func50,Tryz.ntmps50;go_upto_region 1 with fail
 rw [HW.out];go_wp2_with fail
 go_loopw [3,24] (fun s i wr=>∃(k sv:Nat),k≤5∧i=.int .i64 k∧s=.int .i64 sv∧sv≤1048576∧Hid (sv=v0+v1+kM ((rS p).take k))∧Hid (Below w1.heap.size w1 wr)) (fun _ i _=>5 - (intOf i).toNat)
 case atStart=>exact ⟨0,v0+v1,by omega,rfl,by go_num,hvs,rfl,Below.refl _ _⟩
 case round=>
  obtain ⟨k,sv,hk,rfl,rfl,hs1,hs,hB⟩:=hrel;by_cases hlt:k < 5
  ·obtain ⟨s,F,x1,x2,x3,x4⟩:=yz HP.out hlt;have hx:=fd (P:=Tryz.prog) 112 64 5 (zY p) .i64 k _ Tryz.underlying112 (by kernel_rfl) hlt x2 HAG.out;simp only [zY] at hx;have hFs:F.size+sv≤1048576:=by
    have h1:=HLE.out (k+1);rw [ny x1] at h1;have h2:=hs.out;simp only at h1;omega
   obtain ⟨q,hq⟩:∃q,F.size=q:=⟨_,rfl⟩;have HC:=aa ((rH F wr s.A s.N s.C (x3.later hB.out) (by omega)).mono (R':=fun e w'=>e=.returned (.int .i64 (q:Int))∧Below wr.heap.size wr w') (fun e w' h=>⟨by rw [h.1,hq],h.2⟩));have HX1:=aa x1;have HQ:=aa hq;rw [hq] at hFs;clear x1 x2 x3 x4 hq;go_wp2_with (go_at_call 110;refine (HC.out).mono ?_;rintro e w3 ⟨rfl,hb3⟩;have HB3:=aa (ab hB.out hb3);clear hb3)
   go_roundw
   case rel=>exact ⟨k+1,sv+q,by omega,by go_num,by go_num,by omega,by show _=_;rw [ny HX1.out,hs.out,←HQ.out];simp only;omega,HB3⟩
   case measure=>simp [intOf];omega
  ·obtain rfl:k=5:=by omega
   go_wp2_with fail
   go_ret;go_light;have e1:=hs.out;rw [List.take_of_length_le (by simp [rS])] at e1;have:sv=p.size:=by have:=HSZ.out;have:=HV.out;omega
   exact ⟨by rw [this];rfl,ab HB.out hB.out⟩
def il (e:Ending):Prop:=∃v:Int,e=.returned (.int .i64 v)
set_option maxRecDepth 20000 in
theorem wH (F:Es):∀(w:World) (op n:Int) (nm:ByteArray) (A:Option Addr) (N C:Nat),de w w.heap.size A N F→F.size≤1048576→Calls Tryz.prog 255 #[.agg (exC op n nm A N C).toArray] w fun e w'=>il e∧Below w.heap.size w w':=by
 obtain ⟨m,hm⟩:∃m,F.size=m:=⟨_,rfl⟩;induction m using Nat.strongRecOn generalizing F with
 | ind m ih=>
  intro w op n nm A N C hF hsz;obtain ⟨w1,hw1⟩:∃w1,w.alloc (.cells (exC op n nm A N C).toArray 257)=w1:=⟨_,rfl⟩;have hk1:Bk w1 w.heap.size 257 (exC op n nm A N C):=hw1▸Bk.new' w _ _ rfl;have hb1:Below w.heap.size w w1:=hw1▸ai w _;have HF:=aa (hF.below hb1);have HIH:=aa ih;have HM:=aa hm;have HW:=aa hw1;have HB1:=aa hb1;have hNF:=hF.len;have HN:=aa hNF;have hN2:N≤F.size:=by have:=Es.len_size F;omega
  have c3:=hk1.cell 3;simp only [exC,List.getElem?_cons_succ,List.getElem?_cons_zero] at c3;clear ih hm hNF hF hw1 hb1 hk1;go_enter Tryz.func255,Tryz.ntmps255;go_upto_region 1 with fail
  rw [HW.out];go_wp2_with fail
  go_loopw [3,9] (fun s i wr=>∃(k:Nat) (sv:Int),k≤N∧i=.int .i64 k∧s=.int .i64 sv∧Hid (Below w1.heap.size w1 wr)) (fun _ i _=>N - (intOf i).toNat)
  case atStart=>exact ⟨0,0,Nat.zero_le _,rfl,rfl,Below.refl _ _⟩
  case round=>
   obtain ⟨k,sv,hk,rfl,rfl,hB⟩:=hrel;by_cases hlt:k < N
   ·obtain ⟨b,o,op',n',nm',A',N',C',kids,rest,hA,hb,hr,e1,e2,hkd,_,_,_,_,hks⟩:=(HF.below (hB.out.mono HB1.size)).spot hlt;subst hA;have HR:=aa hr;have HC:Hid (∀wk,Below wr.heap.size wr wk→Calls Tryz.prog 255 #[.agg (exC op' n' nm' A' N' C').toArray] wk fun e w'=>il e∧Below wk.heap.size wk w'):=fun wk hwk=>HIH.out kids.size (by have:=HM.out;omega) kids rfl wk op' n' nm' A' N' C' ((hkd.more (Nat.le_trans HB1.size hB.out.size)).later hwk) (by omega);clear hkd hr e1 e2;go_wp2_with (first | (with_reducible refine wpList_load_mid rfl 257 _ rfl b (o+k*4) rfl (exC op' n' nm' A' N' C') _ HR.out Tryz.underlying257 rfl (aV _ _ _ _ _ _) ?_) | (with_reducible refine ah 257 _ _ rfl ?_))
    refine ak.go ?_;obtain ⟨g2,hg2⟩:∃q,wr.heap.size=q:=⟨_,rfl⟩;rw [hg2];refine an 257 _ _ rfl g2 hg2 (exC op' n' nm' A' N' C') rfl rfl rfl rfl (aV _ _ _ _ _ _) (gY _ _ _ _ _ _) ?_;intro w2 hk hbn;have HK2:=aa hk;have HB2:=aa hbn;clear hk hbn;go_wp2_with (first | (with_reducible refine aj rfl 257 _ rfl g2 rfl (exC op' n' nm' A' N' C') 257 HK2.out _ Tryz.underlying257 rfl (aV _ _ _ _ _ _) ?_) | (go_at_call 255;refine (HC.out _ HB2.out).mono ?_;rintro e w3 ⟨⟨v,rfl⟩,hb3⟩;have HB3:=aa (ab HB2.out hb3);clear hb3))
    go_roundw
    case rel=>exact ⟨k+1,_,by omega,by go_num,rfl,ab hB.out HB3.out⟩
    case measure=>simp [intOf];omega
   ·go_wp2_with fail
    go_ret;go_light;exact ⟨⟨_,rfl⟩,ab HB1.out hB.out⟩
open Go.Maps
def AG (e:Ending):Prop:=∃(n:Int) (s:ByteArray),e=.panicked [{ v:=.iface 110 (.agg #[.int .i64 n,.string s]),recovered:=false }]∧n≠0
theorem aD (b:Bool) (n:Int) (s:ByteArray) (hn:n≠0) (w:World):Calls Tryz.prog 105 #[.bool b,.int .i64 n,.string s] w fun e w'=>((b=true∧e=.returned (.tuple #[]))∨(b=false∧AG e))∧w=w':=by
 go_enter Tryz.func105,Tryz.ntmps105;cases b
 ·go_wp2_with fail
  exact ⟨rfl,⟨n,s,rfl,hn⟩,rfl⟩
 ·go_wp2_with fail
  refine bodyPost_end (results_none rfl _ _ _) rfl ?_;exact ⟨rfl,rfl⟩
def dt (n lo hi:Int):Bool:=decide (lo≤n) && decide (n≤hi)
theorem di (n lo hi:Int) (w:World):Calls Tryz.prog 161 #[.int .i64 n,.int .i64 lo,.int .i64 hi] w fun e w'=>e=.returned (.bool (dt n lo hi))∧w=w':=by
 unfold dt;go_enter Tryz.func161,Tryz.ntmps161;by_cases h1:lo≤n
 ·by_cases h2:n≤hi
  ·go_wp2_with fail
   go_ret;exact ⟨by simp [h1,h2],rfl⟩
  ·go_wp2_with fail
   go_ret;exact ⟨by simp [h1,h2],rfl⟩
 ·go_wp2_with fail
  go_ret;exact ⟨by simp [h1];omega,rfl⟩
theorem jC (n:Int) (w:World):Calls Tryz.prog 262 #[.int .i64 n] w fun e w'=>e=.returned (.bool (dt n (-2147483648) 2147483647))∧w=w':=by
 go_enter Tryz.func262,Tryz.ntmps262;go_wp2_with (go_at_call 161;refine (di _ _ _ _).mono ?_;rintro e w' ⟨rfl,rfl⟩)
 go_ret;exact ⟨rfl,rfl⟩
def eO (v:VaT):Int:=if dt v.sz 1 64=true then v.sz else 1
theorem iZ (v:VaT):1≤eO v∧eO v≤64:=by
 unfold eO dt;split
 ·rename_i h;simp at h;omega
 ·omega
set_option maxRecDepth 20000 in
theorem lT (w:World) (v:VaT):Calls Tryz.prog 114 #[.agg (vaC v).toArray] w fun e w'=>e=.returned (.int .i64 (eO v))∧Below w.heap.size w w':=by
 obtain ⟨w1,hw1⟩:∃w1,w.alloc (.cells (vaC v).toArray 117)=w1:=⟨_,rfl⟩;have hk:Bk w1 w.heap.size 117 (vaC v):=hw1▸Bk.new' w _ _ rfl;have hb:Below w.heap.size w w1:=hw1▸ai w _;have c1:=hk.cell 1;simp only [vaC,List.getElem?_cons_succ,List.getElem?_cons_zero] at c1;have HW:=aa hw1;have HB:=aa hb;obtain ⟨x,hx⟩:∃x,dt v.sz 1 64=x:=⟨_,rfl⟩;unfold eO;rw [hx];have hbt:=di v.sz 1 64 w1;rw [hx] at hbt;have HBT:=aa hbt;clear hk hb hw1 hx hbt;go_enter Tryz.func114,Tryz.ntmps114;go_upto_region 1 with fail
 rw [HW.out];go_wp2_with fail
 refine HBT.mono ?_;rintro e w' ⟨rfl,rfl⟩;cases x
 ·go_wp2_with fail
  go_ret;exact ⟨rfl,HB.out⟩
 ·go_wp2_with fail
  go_ret;exact ⟨rfl,HB.out⟩
def jl (v:VaT):Bool:=(decide (-2147483648≤v.lo) && decide (v.lo≤v.hi)) && decide (v.hi≤2147483647)
set_option maxRecDepth 20000 in
theorem pS (w:World) (v:VaT):Calls Tryz.prog 162 #[.agg (vaC v).toArray] w fun e w'=>e=.returned (.bool (jl v))∧Below w.heap.size w w':=by
 obtain ⟨w1,hw1⟩:∃w1,w.alloc (.cells (vaC v).toArray 117)=w1:=⟨_,rfl⟩;have hk:Bk w1 w.heap.size 117 (vaC v):=hw1▸Bk.new' w _ _ rfl;have hb:Below w.heap.size w w1:=hw1▸ai w _;have c2:=hk.cell 2;have c3:=hk.cell 3;simp only [vaC,List.getElem?_cons_succ,List.getElem?_cons_zero] at c2 c3;have HW:=aa hw1;have HB:=aa hb;clear hk hb hw1;unfold jl;go_enter Tryz.func162,Tryz.ntmps162;go_upto_region 1 with fail
 rw [HW.out];by_cases h1 : -2147483648≤v.lo
 ·by_cases h2:v.lo≤v.hi
  ·by_cases h3:v.hi≤2147483647
   ·go_wp2_with fail
    go_ret;exact ⟨by simp [h1,h2,h3],HB.out⟩
   ·go_wp2_with fail
    go_ret;exact ⟨by simp [h1,h2,h3],HB.out⟩
  ·go_wp2_with fail
   go_ret;exact ⟨by simp [h1,h2];omega,HB.out⟩
 ·go_wp2_with fail
  go_ret;exact ⟨by simp [h1];omega,HB.out⟩
def bI:List VaT→Int
 | []=>0
 | v :: l=>eO v+bI l
theorem eY:∀l:List VaT,0≤bI l∧bI l≤64*l.length
 | []=>by simp [bI]
 | v :: l=>by have:=iZ v;have:=eY l;rw [bI,List.length_cons];omega
set_option maxRecDepth 20000 in
theorem lU (w:World) (p:PgT) (h:cI w w.heap.size p):Calls Tryz.prog 52 #[.agg (pgC p).toArray] w fun e w'=>e=.returned (.int .i64 (bI p.vrL))∧Below w.heap.size w w':=by
 obtain ⟨w1,hw1⟩:∃w1,w.alloc (.cells (pgC p).toArray 66)=w1:=⟨_,rfl⟩;have hk:Bk w1 w.heap.size 66 (pgC p):=hw1▸Bk.new' w _ _ rfl;have hb:Below w.heap.size w w1:=hw1▸ai w _;have HW:=aa hw1;have HB:=aa hb;have HV:=aa (h.vr.below hb);have hlen:=h.vr.len;have HLN:=aa hlen;have hN2:p.vr.N≤1048576:=by have:=h.few;unfold PgT.size at this;omega
 have c3:=hk.cell 3;simp only [pgC,List.getElem?_cons_succ,List.getElem?_cons_zero] at c3;have HR:=aa (eY p.vrL);clear hk hw1 h hb hlen;go_enter Tryz.func52,Tryz.ntmps52;go_upto_region 1 with fail
 rw [HW.out];go_wp2_with fail
 go_loopw [3,9] (fun s i wr=>∃(k:Nat) (sv:Int),k≤p.vr.N∧i=.int .i64 k∧s=.int .i64 sv∧0≤sv∧sv≤67108864∧Hid (sv+bI (p.vrL.drop k)=bI p.vrL)∧Hid (Below w1.heap.size w1 wr)) (fun _ i _=>p.vr.N - (intOf i).toNat)
 case atStart=>exact ⟨0,0,Nat.zero_le _,rfl,rfl,by omega,by omega,by show _=_;simp,Below.refl _ _⟩
 case round=>
  obtain ⟨k,sv,hk,rfl,rfl,hs0,hs1,hs,hB⟩:=hrel;by_cases hlt:k < p.vr.N
  ·obtain ⟨b,o,x,hA,hb,hr,hx,hok⟩:=(HV.below (hB.out.mono HB.size)).spot hlt;have HR2:=aa hr;have hss:=hs.out;rw [dJ hx,bI] at hss;have hrn:=eY (p.vrL.drop (k+1));have hrx:=iZ x;have hRt:=HR.out;rw [HLN.out] at hRt;obtain ⟨q,hq⟩:∃q,eO x=q:=⟨_,rfl⟩;have hsz:Hid (∀wk,Calls Tryz.prog 114 #[.agg (vaC x).toArray] wk fun e w'=>e=.returned (.int .i64 q)∧Below wk.heap.size wk w'):=fun wk=>by rw [←hq];exact lT wk x
   rw [hq] at hss hrx;have HSS:=aa hss;have hsum:0≤sv+q∧sv+q≤67108864:=by omega
   obtain ⟨hsum1,hsum2⟩:=hsum;clear hr hx hok hss hrn hRt hq hs;rw [hA] at c3 ⊢;go_wp2_with (first | (with_reducible refine wpList_load_mid rfl 117 _ rfl b (o+k*4) rfl (vaC x) _ HR2.out Tryz.underlying117 rfl (aQ x) ?_) | (with_reducible refine ah 117 _ _ rfl ?_))
   refine ak.go ?_;obtain ⟨g2,hg2⟩:∃q,wr.heap.size=q:=⟨_,rfl⟩;rw [hg2];refine an 117 _ _ rfl g2 hg2 (vaC x) rfl rfl rfl rfl (aQ x) (bw x) ?_;intro w2 hk hbn;have HK2:=aa hk;have HB2:=aa hbn;clear hk hbn;go_wp2_with (first | (with_reducible refine aj rfl 117 _ rfl g2 rfl (vaC x) 117 HK2.out _ Tryz.underlying117 rfl (aQ x) ?_) | (go_at_call 114;refine (hsz.out w2).mono ?_;rintro e w3 ⟨rfl,hb3⟩;have HB3:=aa (ab HB2.out hb3);clear hb3))
   go_roundw
   case rel=>exact ⟨k+1,sv+q,by omega,by go_num,by go_num,hsum1,hsum2,by have:=HSS.out;show _=_;omega,ab hB.out HB3.out⟩
   case measure=>simp [intOf];omega
  ·go_wp2_with fail
   go_ret;go_light;have e1:=hs.out;rw [List.drop_eq_nil_of_le (by rw [HLN.out];omega)] at e1;exact ⟨by rw [←e1];simp [bI],ab HB.out hB.out⟩
theorem eu {P:Program} {fn:Func} {p q u:Tmp} {ty:TypeId} (h:fn.results= #[.tmp p,.cell q ty,.tmp u]) (tmps:Array Value) (w:World) (g:Nat) (t:TypeId) (cs:List Value) (d:TypeDesc) (hp:tmps.getD q undef=.pointer (some ⟨g,0,none⟩)) (hg:Bk w g t cs) (hu:P.underlying ty=some d) (hd:(match d with | .struct _ | .array _ _=>true | _=>false)=true) (hi:(P.info? ty).map (·.size)=some cs.length):(results fn tmps).run P w=.ok (.tuple #[tmps.getD p undef,.agg cs.toArray,tmps.getD u undef]) w:=by
 have hp' : tmps[q]?.getD undef=.pointer (some ⟨g,0,none⟩):=by simpa using hp
 simp only [results,h];simp [Sem.run_bind,hp',asAddr,run_loadVar_row w g t ty cs.toArray (0,0) d hg hu hd (by simpa using hi),Result.andThen]
def sK (e:Ending):Prop:=∃(n:Int) (v:VaT) (x:Bool),e=.returned (.tuple #[.int .i64 n,.agg (vaC v).toArray,.bool x])∧mf v
def zVa:VaT:=⟨⟨#[]⟩,0,0,0⟩
theorem rf:mf zVa:=⟨by decide,by decide,by decide,by decide⟩
theorem no (w:World):(Instr.build 117 #[]).run Tryz.prog w=.ok (.agg (vaC zVa).toArray) w:=by kernel_rfl
set_option maxRecDepth 20000 in
theorem fJ (w:World) (p:PgT) (nm:ByteArray) (h:cI w w.heap.size p):Calls Tryz.prog 117 #[.agg (pgC p).toArray,.string nm] w fun e w'=>sK e∧Below w.heap.size w w':=by
 obtain ⟨g,hg⟩:∃g,w.heap.size=g:=⟨_,rfl⟩;obtain ⟨w1,hw1⟩:∃w1,(w.alloc (.cells (pgC p).toArray 66)).alloc (.cells #[.string ⟨#[]⟩,.int .i64 0,.int .i64 0,.int .i64 0] 117)=w1:=⟨_,rfl⟩;have hk:Bk w1 g 66 (pgC p):=hw1▸(Bk.at_ w _ _ hg rfl).alloc _;have hr:Bk w1 (g+1) 117 (vaC zVa):=hw1▸Bk.at_ _ _ _ (by simp [hg]) rfl;have hb:Below w.heap.size w w1:=hw1▸(ai w _).alloc (by simp) _;have HW:=aa hw1;have HB:=aa hb;have HV:=aa (h.vr.below hb);have HG:=aa hg;have HR1:=aa hr;have hlen:=h.vr.len;have HLN:=aa hlen;have hN2:p.vr.N≤1048576:=by have:=h.few;unfold PgT.size at this;omega
 have c3:=hk.cell 3;simp only [pgC,List.getElem?_cons_succ,List.getElem?_cons_zero] at c3;clear hk hw1 h hb hlen hr hg;go_enter Tryz.func117,Tryz.ntmps117;go_upto_region 1 with fail
 rw [HW.out,HG.out];go_wp2_with fail
 go_loopw [7,13] (fun s i wr=>∃(k:Nat) (sv:Int),k≤p.vr.N∧i=.int .i64 k∧s=.int .i64 sv∧Hid (Below w1.heap.size w1 wr)) (fun _ i _=>p.vr.N - (intOf i).toNat)
 case atStart=>exact ⟨0,0,Nat.zero_le _,rfl,rfl,Below.refl _ _⟩
 case round=>
  obtain ⟨k,sv,hk,rfl,rfl,hB⟩:=hrel;by_cases hlt:k < p.vr.N
  ·obtain ⟨b,o,x,hA,hb,hr,hx,hok⟩:=(HV.below (hB.out.mono HB.size)).spot hlt;have HR2:=aa hr;have HOK:=aa hok;clear hr hx hok;rw [hA] at c3 ⊢;go_wp2_with (first | (with_reducible refine wpList_load_mid rfl 117 _ rfl b (o+k*4) rfl (vaC x) _ HR2.out Tryz.underlying117 rfl (aQ x) ?_) | (with_reducible refine ah 117 _ _ rfl ?_))
   refine ak.go ?_;obtain ⟨g2,hg2⟩:∃q,wr.heap.size=q:=⟨_,rfl⟩;rw [hg2];refine an 117 _ _ rfl g2 hg2 (vaC x) rfl rfl rfl rfl (aQ x) (bw x) ?_;intro w2 hk hbn;have HK2:=aa hk;have HB2:=aa hbn;clear hk hbn;have d0:=HK2.cell 0;simp only [vaC,List.getElem?_cons_zero] at d0;have hsz:Hid (∀wk,Calls Tryz.prog 114 #[.agg (vaC x).toArray] wk fun e w'=>e=.returned (.int .i64 (eO x))∧Below wk.heap.size wk w'):=fun wk=>lT wk x;cases ht:(x.nm.toList == nm.toList) with
   | false=>
    go_wp2_with (first | (with_reducible refine aj rfl 117 _ rfl g2 rfl (vaC x) 117 HK2.out _ Tryz.underlying117 rfl (aQ x) ?_) | (go_at_call 114;refine (hsz.out w2).mono ?_;rintro e w3 ⟨rfl,hb3⟩;have HB3:=aa (ab HB2.out hb3);clear hb3))
    go_roundw
    case rel=>exact ⟨k+1,_,by omega,by go_num,rfl,ab hB.out HB3.out⟩
    case measure=>simp [intOf];omega
   | true=>
    go_wp2_with fail
    refine wp_region_held_drew (S:=fun wk=>Bk wk g2 117 (vaC x)) (by kernel_rfl) (HK2.later (ac w2 _ 1)) (fun hHeld=>?_);have HB3:=aa (ac w2 w2.heap.size 1);refine tk 0 ?_;refine tkR 1 (vaC x) (fun w hSw=>(Bk.range (pre:=[]) (post:=[]) (by simpa using hSw) rfl)) Tryz.underlying117 ((aQ x)) ?_;refine tk 2 ?_;have hr9:Bk w2.drew (g+1) 117 (vaC zVa):=HR1.later (ab hB.out (ab HB2.out HB3.out));refine wpAnyH_ready (rs:=[3]) (by kernel_rfl) (by simp) ?_;refine AllReadyH.cons rfl (fun K hK=>?_) AllReadyH.nil;rw [if_pos (by rfl)];refine au 117 _ _ rfl (g+1) 0 (.agg (vaC x).toArray) (vaC x) rfl rfl rfl 117 [] (vaC zVa) [] (by simpa using hr9) rfl rfl (aQ _) (bw _) ?_;intro w6 hp;have HK6:Hid (Bk w6 (g+1) 117 (vaC x)):=by show Bk _ _ _ _;have:=hp.bk;simpa using this
    have hlb:=ab HB.out (ab hB.out (ab HB2.out HB3.out));have HB6:=aa (hlb.grown hp.only hlb.size (fun q hq=>by injection hq with hq;rw [HG.out];omega));have hlt2:g+1 < g2:=by have:=HR1.lt;have:=hB.out.size;omega
    have hk6:Bk w6 g2 117 (vaC x):=(HK2.later HB3.out).grown hp.only (fun e=>by injection e with e;omega);clear hp;refine so hK hk6 (fun hHeld=>?_);clear hK K;refine tk 4 ?_;refine wpAnyH_done rfl ?_ _;go_wp2_with fail
    refine bodyPost_ret (eu rfl _ _ (g+1) 117 (vaC x) _ rfl HK6.out Tryz.underlying117 rfl (aQ _)) rfl ?_;exact ⟨⟨_,x,_,rfl,HOK.out⟩,HB6.out⟩
  ·have hr9:Bk wr (g+1) 117 (vaC zVa):=HR1.later hB.out;go_wp2_with (first | ((with_reducible refine aS rfl 117 _ rfl #[] ?_ _ (no _) ?_);focus (simp [Act.eval,Act.put];done)) | (with_reducible refine ah 117 _ _ rfl ?_))
   refine ak.go ?_;refine ae rfl 117 _ _ rfl (g+1) 0 (.agg (vaC zVa).toArray) (vaC zVa) rfl rfl rfl 117 [] (vaC zVa) [] (by simpa using hr9) rfl rfl (aQ _) (bw _) ?_;intro w6 hp;have HK6:Hid (Bk w6 (g+1) 117 (vaC zVa)):=by show Bk _ _ _ _;have:=hp.bk;simpa using this
   have HB6:=aa ((ab HB.out hB.out).grown hp.only (ab HB.out hB.out).size (fun q hq=>by injection hq with hq;rw [HG.out];omega));clear hp;go_wp2_with fail
   refine bodyPost_ret (eu rfl _ _ (g+1) 117 (vaC zVa) _ rfl HK6.out Tryz.underlying117 rfl (aQ _)) rfl ?_;exact ⟨⟨_,zVa,_,rfl,rf⟩,HB6.out⟩
set_option maxRecDepth 20000 in
theorem vJ (w:World) (p:PgT) (h:cI w w.heap.size p):Calls Tryz.prog 163 #[.agg (pgC p).toArray] w fun e w'=>il e∧Below w.heap.size w w':=by
 obtain ⟨w1,hw1⟩:∃w1,w.alloc (.cells (pgC p).toArray 66)=w1:=⟨_,rfl⟩;have hk:Bk w1 w.heap.size 66 (pgC p):=hw1▸Bk.new' w _ _ rfl;have hb:Below w.heap.size w w1:=hw1▸ai w _;have HW:=aa hw1;have HB:=aa hb;have HV:=aa (h.pa.below hb);have hlen:=h.pa.len;have HLN:=aa hlen;have hN2:p.pa.N≤1048576:=by have:=h.few;unfold PgT.size at this;omega
 have HKK:=aa hk;have c6:=hk.cell 6;simp only [pgC,List.getElem?_cons_succ,List.getElem?_cons_zero] at c6;clear hk hw1 h hb hlen;go_enter Tryz.func163,Tryz.ntmps163;go_upto_region 1 with fail
 rw [HW.out];go_wp2_with fail
 go_loopw [4,12] (fun _ i wr=>∃(k:Nat),k≤p.pa.N∧i=.int .i64 k∧Hid (Below w1.heap.size w1 wr)) (fun _ i _=>p.pa.N - (intOf i).toNat)
 case atStart=>exact ⟨0,Nat.zero_le _,rfl,Below.refl _ _⟩
 case round=>
  obtain ⟨k,hk,rfl,hB⟩:=hrel;by_cases hlt:k < p.pa.N
  ·obtain ⟨b,o,x,hA,hb,hr,hx,hok⟩:=(HV.below (hB.out.mono HB.size)).spot hlt;have HR2:=aa hr;clear hr hx hok;rw [hA] at c6 ⊢;go_wp2_with (first | (with_reducible refine wpList_load_mid rfl 117 _ rfl b (o+k*4) rfl (vaC x) _ HR2.out Tryz.underlying117 rfl (aQ x) ?_) | (with_reducible refine ah 117 _ _ rfl ?_))
   refine ak.go ?_;obtain ⟨g2,hg2⟩:∃q,wr.heap.size=q:=⟨_,rfl⟩;rw [hg2];refine an 117 _ _ rfl g2 hg2 (vaC x) rfl rfl rfl rfl (aQ x) (bw x) ?_;intro w2 hk hbn;have HK2:=aa hk;have HB2:=aa hbn;clear hk hbn;have d2:=HK2.cell 2;have d3:=HK2.cell 3;simp only [vaC,List.getElem?_cons_succ,List.getElem?_cons_zero] at d2 d3;by_cases hgt:x.hi < x.lo
   ·go_wp2_with fail
    go_ret;exact ⟨⟨_,rfl⟩,ab HB.out (ab hB.out HB2.out)⟩
   ·go_wp2_with fail
    go_roundw
    case rel=>exact ⟨k+1,by omega,by go_num,ab hB.out HB2.out⟩
    case measure=>simp [intOf];omega
  ·have c6' : wr.cell? ⟨w.heap.size,6,none⟩=some (.slice p.pa.A p.pa.N p.pa.C):=by have:=(HKK.later hB.out).cell 6;simpa [pgC] using this
   go_wp2_with fail
   go_loopw [5,25] (fun s i wz=>∃(k:Nat) (sv:Int),k≤p.pa.N∧i=.int .i64 k∧s=.int .u64 sv∧Hid (Below w1.heap.size w1 wz)) (fun _ i _=>p.pa.N - (intOf i).toNat)
   case atStart=>exact ⟨0,1,Nat.zero_le _,rfl,rfl,hB.out⟩
   case round=>
    obtain ⟨k,sv,hk,rfl,rfl,hB⟩:=hrel;by_cases hlt:k < p.pa.N
    ·obtain ⟨b,o,x,hA,hb,hr,hx,hok⟩:=(HV.below (hB.out.mono HB.size)).spot hlt;have HR2:=aa hr;clear hr hx hok;rw [hA] at c6 ⊢;go_wp2_with (first | (with_reducible refine wpList_load_mid rfl 117 _ rfl b (o+k*4) rfl (vaC x) _ HR2.out Tryz.underlying117 rfl (aQ x) ?_) | (with_reducible refine ah 117 _ _ rfl ?_))
     refine ak.go ?_;obtain ⟨g2,hg2⟩:∃q,wr.heap.size=q:=⟨_,rfl⟩;rw [hg2];refine an 117 _ _ rfl g2 hg2 (vaC x) rfl rfl rfl rfl (aQ x) (bw x) ?_;intro w2 hk hbn;have HK2:=aa hk;have HB2:=aa hbn;clear hk hbn;have d2:=HK2.cell 2;have d3:=HK2.cell 3;simp only [vaC,List.getElem?_cons_succ,List.getElem?_cons_zero] at d2 d3;go_wp2_with fail
     exact ⟨⟨k+1,_,by omega,by go_num,rfl,ab hB.out HB2.out⟩,by simp [intOf];omega⟩
    ·go_wp2_with fail
     go_ret;exact ⟨⟨_,rfl⟩,ab HB.out hB.out⟩
structure Ck (w:World) (lo g mb c:Nat):Prop where
 bk:∃(part:ByteArray) (fors:Int),Bk w g 180 [.map (some mb),.string part,.int .i64 fors]
 mp:∃(n:Nat) (D:DataW Unit),w.ownsMap Tryz.prog 9 (plainElem Tryz.prog 240) mb n D∧n≤c
 lo:lo≤g∧lo≤mb
theorem Ck.later {w w' : World} {lo g mb c:Nat} (h:Ck w lo g mb c) (hb:Below w.heap.size w w'):Ck w' lo g mb c:=by obtain ⟨⟨part,fors,h1⟩,⟨n,D,h2,h3⟩,h4⟩:=h;exact ⟨⟨part,fors,h1.later hb⟩,⟨n,D,h2.kept (av hb) (by simp),h3⟩,h4⟩
theorem Ck.more {w:World} {lo g mb c c' : Nat} (h:Ck w lo g mb c) (hc:c≤c'):Ck w lo g mb c':=by obtain ⟨h1,⟨n,D,h2,h3⟩,h4⟩:=h;exact ⟨h1,⟨n,D,h2,by omega⟩,h4⟩
theorem dp {w:World} {g mb n:Nat} {T K:TypeId} {R:Value→Option (DataW Unit × List MemPlace)} {cs:List Value} {D:DataW Unit} (h:Bk w g T cs) (hm:w.ownsMap Tryz.prog K R mb n D):g≠mb:=by rintro rfl;obtain ⟨es,clock,hh,_⟩:=hm;unfold Bk at h;rw [h] at hh;cases hh
theorem Ck.lt {w:World} {lo g mb c:Nat} (h:Ck w lo g mb c):g < w.heap.size∧mb < w.heap.size:=by obtain ⟨⟨_,_,h1⟩,⟨_,_,h2,_⟩,_⟩:=h;exact ⟨h1.lt,h2.lt⟩
theorem Ck.mapped {w w' : World} {lo g mb c c' : Nat} (h:Ck w lo g mb c) (hg:w.grownBy w' (some mb)) (hm:∃(n:Nat) (D:DataW Unit),w'.ownsMap Tryz.prog 9 (plainElem Tryz.prog 240) mb n D∧n≤c'):Ck w' lo g mb c':=by obtain ⟨⟨part,fors,h1⟩,⟨n,D,h2,h3⟩,h4⟩:=h;exact ⟨⟨part,fors,h1.grown hg (by have:=dp h1 h2;simpa using this)⟩,hm,h4⟩
theorem Ck.turned {w w' : World} {lo g mb c:Nat} (h:Ck w lo g mb c) (hg:w.grownBy w' (some g)) (hb:∃(part:ByteArray) (fors:Int),Bk w' g 180 [.map (some mb),.string part,.int .i64 fors]):Ck w' lo g mb c:=by obtain ⟨⟨part,fors,h1⟩,⟨n,D,h2,h3⟩,h4⟩:=h;exact ⟨hb,⟨n,D,h2.kept hg (by have:=dp h1 h2;intro e;injection e with e;exact this e.symm),h3⟩,h4⟩
theorem Ck.below {w0 w w' : World} {lo g mb c B:Nat} (h:Ck w lo g mb c) (hB:Below B w0 w) (hlo:B≤lo) (hw:B≤w.heap.size) (hg:w.grownBy w' (some mb)∨w.grownBy w' (some g)):Below B w0 w':=by
 rcases hg with hg | hg
 ·exact ag hB hg hw (Nat.le_trans hlo h.lo.2)
 ·exact ag hB hg hw (Nat.le_trans hlo h.lo.1)
set_option maxRecDepth 20000 in
theorem eZ (w:World) (lo g mb c:Nat) (h:Ck w lo g mb c) (s:ByteArray) (hs:s.size≤1048576):Calls Tryz.prog 107 #[.pointer (some ⟨g,0,none⟩),.string s] w fun e w'=>fq e∧w=w':=by
 obtain ⟨⟨part,fors,hk⟩,⟨n,D,hm,_⟩,_⟩:=h;have hlk:=vw (P:=Tryz.prog) Tryz.underlying178 Tryz.underlying9 Tryz.underlying240 (Tryz.zeroValue240 _) hm hs;have c0:=hk.cell 0;simp only [List.getElem?_cons_zero] at c0;clear hk hm;go_enter Tryz.func107,Tryz.ntmps107;go_wp2_with fail
 go_ret;exact ⟨⟨_,rfl⟩,rfl⟩
def kK (G:Prop) (e:Ending):Prop:=(e=.returned (.tuple #[])∧G)∨AG e
theorem aA {P:Program} {fn:Func} {R:Ending→World→Prop} {a:Act} {w:World} {ch:List PanicEntry} (hd:a.defers=[]) (h:R (.panicked ch) w):bodyPost P fn R (.panic ch) a w:=⟨hd,h⟩
theorem bj {f:Act→World→Prop} {Q:Exit→Act→World→Prop} {a:Act} {w:World} {ch:List PanicEntry} (h:Q (.panic ch) a w):Exit.then f Q (.panic ch) a w:=h
theorem cx {n:Nat} {Q:Exit→Act→World→Prop} {a:Act} {w:World} {ch:List PanicEntry} (h:Q (.panic ch) a w):Exit.inBlock n Q (.panic ch) a w:=h
set_option maxRecDepth 20000 in
theorem tJ (w:World) (lo g mb c:Nat) (hc:Ck w lo g mb c) (p:PgT) (h:cI w lo p) (hL:cX w) (h6:6≤lo) (hlo:lo≤w.heap.size):Calls Tryz.prog 102 #[.pointer (some ⟨g,0,none⟩),.agg (pgC p).toArray] w fun e w'=>kK True e∧Below w.heap.size w w':=by
 obtain ⟨z,hz⟩:∃z,w.heap.size=z:=⟨_,rfl⟩;obtain ⟨w1,hw1⟩:∃w1,w.alloc (.cells (pgC p).toArray 66)=w1:=⟨_,rfl⟩;have hk:Bk w1 z 66 (pgC p):=hw1▸Bk.at_ w _ _ hz rfl;have hb:Below w.heap.size w w1:=hw1▸ai w _;have HW:=aa hw1;have HB:=aa hb;have HP:=aa h;have HZ:=aa hz;have HK:=aa hk;have HL:=aa (hL.later hb);have HLO:=aa hlo;clear hk hw1 hz hb hc;go_enter Tryz.func102,Tryz.ntmps102;go_upto_region 1 with fail
 rw [HW.out,HZ.out];have HS:Hid (∀wk,Below w1.heap.size w1 wk→wk.cell? ⟨z,0,none⟩=some (.string p.nm)∧wk.cell? ⟨z,1,none⟩=some (.int .i64 p.seats)∧wk.cell? ⟨z,2,none⟩=some (.slice p.sk.A p.sk.N p.sk.C)):=fun wk hwk=>⟨(HK.later hwk).cell 0,(HK.later hwk).cell 1,(HK.later hwk).cell 2⟩;refine wp_region_held_drew (S:=fun wk=>wk.cell? ⟨z,0,none⟩=some (.string p.nm)) (by kernel_rfl) (HS.out _ (ac w1 _ 1)).1 (fun hHeld=>?_);have HB2:=aa (ac w1 w1.heap.size 1);refine tk 0 ?_;refine tk 3 ?_;refine tk 1 ?_;refine tk 4 ?_;refine rd1 2 (fun K hK=>?_);go_simp
 (refine (fY p.nm HP.nm _ (HL.later HB2.out)).mono ?_;rintro e w3 ⟨⟨x3,rfl⟩,hbn⟩;have HB3:=aa (ab HB2.out hbn);clear hbn)
 refine so hK ((HS.out _ HB3.out).1) (fun hHeld=>?_);clear hK K;refine rd1 5 (fun K hK=>?_);go_simp;refine (aD x3 6 (p.nm) (by decide) _).mono ?_;rintro e w' ⟨⟨hmb,rfl⟩ | ⟨hmb,pn,ps,rfl,hpn⟩,rfl⟩;rotate_left
 ·exact aA rfl ⟨.inr ⟨pn,ps,rfl,hpn⟩,ab HB.out HB3.out⟩
 refine so hK ((HS.out _ HB3.out).1) (fun hHeld=>?_);clear hK K;refine wpAnyH_done rfl ?_ _;have h0:=HS.out _ HB3.out;obtain ⟨d0,d1,d2⟩:=h0;go_wp2_with (go_at_call 161;refine (di _ _ _ _).mono ?_;rintro e w' ⟨rfl,rfl⟩)
 refine (aD _ _ _ (by decide) _).mono ?_;rintro e w' ⟨⟨hmb,rfl⟩ | ⟨hmb,pn,ps,rfl,hpn⟩,rfl⟩;rotate_left
 ·exact aA rfl ⟨.inr ⟨pn,ps,rfl,hpn⟩,ab HB.out HB3.out⟩
 go_wp2_with fail
 refine (aD _ _ _ (by decide) _).mono ?_;rintro e w' ⟨⟨hmb,rfl⟩ | ⟨hmb,pn,ps,rfl,hpn⟩,rfl⟩;rotate_left
 ·exact aA rfl ⟨.inr ⟨pn,ps,rfl,hpn⟩,ab HB.out HB3.out⟩
 clear hmb;have HSK:=aa (HP.sk.below (ab HB.out HB3.out |>.mono HLO.out));have HSN:=aa HP.skn;have hskn:=HP.skn;go_wp2_with fail
 go_loop [5,26] (fun _ i=>∃(k:Nat),k≤p.sk.N∧i=.int .i64 k) (fun _ i=>p.sk.N - (intOf i).toNat);case atStart=>exact ⟨0,Nat.zero_le _,rfl⟩
 case round=>
  obtain ⟨k,hk,rfl⟩:=hrel;by_cases hlt:k < p.sk.N
  ·obtain ⟨a,x,hA,hab,hx,hcl⟩:=HSK.at_ hlt;rw [hA] at d2 ⊢;go_wp2_with (go_at_call 161;refine (di _ _ _ _).mono ?_;rintro e w' ⟨rfl,rfl⟩)
   refine (aD _ _ _ (by decide) _).mono ?_;rintro e w' ⟨⟨hmb,rfl⟩ | ⟨hmb,pn,ps,rfl,hpn⟩,rfl⟩;rotate_left
   ·exact bj (cx (aA rfl ⟨.inr ⟨pn,ps,rfl,hpn⟩,ab HB.out HB3.out⟩))
   clear hmb;go_wp2_with fail
   go_round;case rel=>exact ⟨k+1,by omega,by go_num⟩
   case measure=>simp [intOf];omega
  ·go_wp2_with fail
   refine bodyPost_end (results_none rfl _ _ _) rfl ?_;exact ⟨.inl ⟨rfl,trivial⟩,ab HB.out HB3.out⟩
theorem Ck.c0 {w:World} {lo g mb c:Nat} (h:Ck w lo g mb c):w.cell? ⟨g,0,none⟩=some (.map (some mb)):=by obtain ⟨⟨part,fors,h1⟩,_⟩:=h;exact h1.cell 0
theorem Ck.far {w:World} {lo g mb c z:Nat} {T:TypeId} {cs:List Value} (h:Ck w lo g mb c) (hz:Bk w z T cs):(some z:Option Nat)≠some mb:=by obtain ⟨_,⟨n,D,h2,_⟩,_⟩:=h;have:=dp hz h2;simpa using this
def rg (v:VaT):Bool:=dt v.sz 0 64 && jl v
def ze (p:PgT):Prop:=(∀v∈p.vrL,rg v=true)∧bI p.vrL≤64
set_option maxRecDepth 20000 in
set_option maxHeartbeats 1000000 in
theorem tK (w:World) (lo g mb c:Nat) (hc:Ck w lo g mb c) (p:PgT) (h:cI w lo p) (hL:cX w) (h6:6≤lo) (hlo:lo≤w.heap.size) (hcc:c≤1000):Calls Tryz.prog 103 #[.pointer (some ⟨g,0,none⟩),.agg (pgC p).toArray] w fun e w'=>kK (ze p) e∧Below lo w w'∧Ck w' lo g mb (c+2*p.vr.N):=by
 obtain ⟨z,hz⟩:∃z,w.heap.size=z:=⟨_,rfl⟩;obtain ⟨w1,hw1⟩:∃w1,w.alloc (.cells (pgC p).toArray 66)=w1:=⟨_,rfl⟩;have hk:Bk w1 z 66 (pgC p):=hw1▸Bk.at_ w _ _ hz rfl;have hb:Below w.heap.size w w1:=hw1▸ai w _;have hN2:p.vr.N≤1048576:=by have:=h.few;have:=h.vr.len;unfold PgT.size at *; omega
 have HLN:=aa h.vr.len;have HW:=aa hw1;have HB:=aa (hb.mono hlo);have HP:=aa h;have HZ:=aa hz;have HK:=aa hk;have HLA:=aa hL;have HC:=aa (hc.later hb);have c3:=hk.cell 3;simp only [pgC,List.getElem?_cons_succ,List.getElem?_cons_zero] at c3;clear hk hw1 hz hb hc hL h;go_enter Tryz.func103,Tryz.ntmps103;go_upto_region 1 with fail
 rw [HW.out,HZ.out];go_wp2_with fail
 clear c3;go_loopw [5,9] (fun _ i wr=>∃(k:Nat),k≤p.vr.N∧i=.int .i64 k∧Hid (Ck wr lo g mb (c+2*k))∧Hid (Bk wr z 66 (pgC p))∧Hid (Below lo w wr)∧Hid (∀v∈p.vrL.take k,rg v=true)) (fun _ i _=>p.vr.N - (intOf i).toNat)
 case atStart=>exact ⟨0,Nat.zero_le _,rfl,HC.out,HK.out,HB.out,fun v hv=>by simp at hv⟩
 case round=>
  obtain ⟨k,hk,rfl,HCr,HKr,hB,HV⟩:=hrel;by_cases hlt:k < p.vr.N
  ·obtain ⟨b,o,x,hA,hb,hr,hx,hok⟩:=(HP.vr.below hB.out).spot hlt;have HR2:=aa hr;have HX:=aa hx;have hnm:=hok.nm;clear hr hx hok;rw [hA];go_wp2_with (first | (with_reducible refine wpList_load_mid rfl 117 _ rfl b (o+k*4) rfl (vaC x) _ HR2.out Tryz.underlying117 rfl (aQ x) ?_) | (with_reducible refine ah 117 _ _ rfl ?_))
   refine ak.go ?_;obtain ⟨g2,hg2⟩:∃q,wr.heap.size=q:=⟨_,rfl⟩;rw [hg2];refine an 117 _ _ rfl g2 hg2 (vaC x) rfl rfl rfl rfl (aQ x) (bw x) ?_;intro w2 hk hbn;have HK2:=aa hk;have HB2:=aa hbn;clear hk hbn;have HC2:=aa (HCr.later HB2.out);have HP2:=aa (HKr.later HB2.out);have HBL2:=aa (hB.out.trans (HB2.mono (Nat.le_trans hlo hB.out.size)));go_wp2_with fail
   refine wp_region_held_drew (S:=fun wk=>wk.cell? ⟨g2,0,none⟩=some (.string x.nm)) (by kernel_rfl) ((HK2.later (ac w2 _ 1)).cell 0) (fun hHeld=>?_);have HB3:=aa (ac w2 w2.heap.size 1);refine tk 0 ?_;refine tk 3 ?_;refine tk 1 ?_;refine tk 4 ?_;refine rd1 2 (fun K hK=>?_);go_simp
   (refine (fY x.nm hnm _ (HLA.below h6 (HBL2.trans (HB3.mono (Nat.le_trans hlo HBL2.size))))).mono ?_;rintro e w4 ⟨⟨x4,rfl⟩,hbn⟩;have HB4:=aa (ab HB3.out hbn);have HBL4:=aa (HBL2.trans (HB4.mono (Nat.le_trans hlo HBL2.size)));have HC4:=aa (HC2.later HB4.out);clear hbn)
   refine so hK ((HK2.later HB4.out).cell 0) (fun hHeld=>?_);clear hK K;refine rd1 5 (fun K hK=>?_);go_simp;refine (aD x4 6 (x.nm) (by decide) _).mono ?_;rintro e w' ⟨⟨hmb,rfl⟩ | ⟨hmb,pn,ps,rfl,hpn⟩,rfl⟩;rotate_left
   ·exact bj (cx (bj (aA rfl ⟨.inr ⟨pn,ps,rfl,hpn⟩,HBL4.out,HC4.more (by omega)⟩)))
   refine so hK ((HK2.later HB4.out).cell 0) (fun hHeld=>?_);clear hK K;refine wpAnyH_done rfl ?_ _;clear hmb;go_wp2_with fail
   refine wp_region_held_drew (S:=fun wk=>wk.cell? ⟨g2,0,none⟩=some (.string x.nm)) (by kernel_rfl) ((HK2.later (ab HB4.out (ac w4 _ 1))).cell 0) (fun hHeld=>?_);obtain ⟨w5,hw5⟩:∃wa,w4.drew=wa:=⟨_,rfl⟩;have hb5:Below w4.heap.size w4 w5:=hw5▸ac w4 w4.heap.size 1;rw [hw5] at hHeld ⊢;have HB5:=aa (ab HB4.out hb5);have HC5:=aa (HC4.later hb5);have HBL5:=aa (HBL4.trans (hb5.mono (Nat.le_trans hlo HBL4.size)));clear hw5 hb5;refine tk 0 ?_;refine tk 1 ?_;refine tk 5 ?_;refine tk 2 ?_;refine tk 6 ?_;refine rd1 3 (fun K hK=>?_);go_simp
   (refine (eZ w5 lo g mb _ HC5.out x.nm hnm).mono ?_;rintro e w6 ⟨⟨x6,rfl⟩,rfl⟩)
   refine so hK ((HK2.later HB5.out).cell 0) (fun hHeld=>?_);clear hK K;refine tk 4 ?_;refine rd1 7 (fun K hK=>?_);go_simp;refine (aD (!x6) 7 (x.nm) (by decide) _).mono ?_;rintro e w' ⟨⟨hmb,rfl⟩ | ⟨hmb,pn,ps,rfl,hpn⟩,rfl⟩;rotate_left
   ·exact bj (cx (bj (aA rfl ⟨.inr ⟨pn,ps,rfl,hpn⟩,HBL5.out,HC5.more (by omega)⟩)))
   refine so hK ((HK2.later HB5.out).cell 0) (fun hHeld=>?_);clear hK K;refine wpAnyH_done rfl ?_ _;clear hmb;go_wp2_with fail
   obtain ⟨y,hy⟩:∃y,dt x.sz 0 64=y:=⟨_,rfl⟩;obtain ⟨u,hu⟩:∃u,jl x=u:=⟨_,rfl⟩;have HBT:Hid (∀wk,Calls Tryz.prog 161 #[.int .i64 x.sz,.int .i64 0,.int .i64 64] wk fun e w'=>e=.returned (.bool y)∧wk=w'):=fun wk=>by rw [←hy];exact di _ _ _ wk
   have HSP:Hid (∀wk,Calls Tryz.prog 162 #[.agg (vaC x).toArray] wk fun e w'=>e=.returned (.bool u)∧Below wk.heap.size wk w'):=fun wk=>by rw [←hu];exact pS wk x
   have HYU:Hid (rg x=(y && u)):=by show rg x=_;unfold rg;rw [hy,hu]
   clear hy hu;refine wp_region_held_drew (S:=fun wk=>Bk wk g2 117 (vaC x)) (by kernel_rfl) (HK2.later (ab HB5.out (ac w5 _ 1))) (fun hHeld=>?_);obtain ⟨w6,hw6⟩:∃wa,w5.drew=wa:=⟨_,rfl⟩;have hb6:Below w5.heap.size w5 w6:=hw6▸ac w5 w5.heap.size 1;rw [hw6] at hHeld ⊢;have HB6:=aa (ab HB5.out hb6);have HC6:=aa (HC5.later hb6);have HBL6:=aa (HBL5.trans (hb6.mono (Nat.le_trans hlo HBL5.size)));clear hw6 hb6;refine tk 0 ?_;refine tk 7 ?_;refine tkv 1 rfl (fun w hSw=>by have hcell:=(show w.cell? ⟨g2,1,none⟩=some (.int .i64 x.sz) from hSw.cell 1);clear hSw;go_simp;try with_reducible rfl) ?_;refine tkv 8 rfl (fun w hSw=>by have hcell:=(show w.cell? ⟨g2,0,none⟩=some (.string x.nm) from hSw.cell 0);clear hSw;go_simp;try with_reducible rfl) ?_;refine rd1 2 (fun K hK=>?_);go_simp
   (refine (HBT.out w6).mono ?_;rintro e w' ⟨rfl,rfl⟩)
   refine so hK (HK2.later HB6.out) (fun hHeld=>?_);clear hK K;refine tk 3 ?_;cases y with
   | false=>
    refine tk0 4 ?_;refine tk0 5 ?_;refine tk 6 ?_;refine rd1 9 (fun K hK=>?_);go_simp;refine (aD false 2 (x.nm) (by decide) _).mono ?_;rintro e w' ⟨⟨hmb,rfl⟩ | ⟨hmb,pn,ps,rfl,hpn⟩,rfl⟩;rotate_left
    ·exact bj (cx (bj (aA rfl ⟨.inr ⟨pn,ps,rfl,hpn⟩,HBL6.out,HC6.more (by omega)⟩)))
    refine so hK (HK2.later HB6.out) (fun hHeld=>?_);clear hK K;cases hmb
   | true=>
    refine tkR 4 (vaC x) (fun w hSw=>(Bk.range (pre:=[]) (post:=[]) (by simpa using hSw) rfl)) Tryz.underlying117 ((aQ x)) ?_;refine rd1 5 (fun K hK=>?_);go_simp
    (refine (HSP.out w6).mono ?_;rintro e w7 ⟨rfl,hbn⟩;have HB7:=aa (ab HB6.out hbn);have HC7:=aa (HC6.later hbn);have HBL7:=aa (HBL6.trans (hbn.mono (Nat.le_trans hlo HBL6.size)));clear hbn)
    refine so hK (HK2.later HB7.out) (fun hHeld=>?_);clear hK K;refine tk 6 ?_;refine rd1 9 (fun K hK=>?_);go_simp;refine (aD u 2 (x.nm) (by decide) _).mono ?_;rintro e w' ⟨⟨hmb,rfl⟩ | ⟨hmb,pn,ps,rfl,hpn⟩,rfl⟩;rotate_left
    ·exact bj (cx (bj (aA rfl ⟨.inr ⟨pn,ps,rfl,hpn⟩,HBL7.out,HC7.more (by omega)⟩)))
    refine so hK (HK2.later HB7.out) (fun hHeld=>?_);clear hK K;refine wpAnyH_done rfl ?_ _;subst hmb;go_wp2_with fail
    refine wp_region_held_drew (S:=fun wk=>wk.cell? ⟨g,0,none⟩=some (.map (some mb))∧wk.cell? ⟨g2,0,none⟩=some (.string x.nm)) (by kernel_rfl) ⟨(HC7.later (ac w7 _ 1)).c0,(HK2.later (ab HB7.out (ac w7 _ 1))).cell 0⟩ (fun hHeld=>?_);obtain ⟨w8,hw8⟩:∃wa,w7.drew=wa:=⟨_,rfl⟩;have hb8:Below w7.heap.size w7 w8:=hw8▸ac w7 w7.heap.size 1;rw [hw8] at hHeld ⊢;have HB8:=aa (ab HB7.out hb8);have HC8:=aa (HC7.later hb8);have HBL8:=aa (HBL7.trans (hb8.mono (Nat.le_trans hlo HBL7.size)));have HP8:=aa (HP2.later (ab HB7.out hb8));have HK8:=aa (HK2.later (ab HB7.out hb8));clear hw8 hb8;refine tk 0 ?_;refine tk 4 ?_;refine tk 1 ?_;refine tk 5 ?_;refine tk 2 ?_;refine tk 3 ?_;refine rdw 6 (fun K hK=>?_);obtain ⟨n9,D9,hm9,hn9⟩:=(HC8.out).mp;obtain ⟨w9,hrun9,hown9,hg9⟩:=hm9.update (string_keyed Tryz.underlying9) Tryz.underlying178 (by unfold maxLen;omega) (WideMaps.keyOf_string_mk (P:=Tryz.prog) Tryz.underlying9 (s:=x.nm) (by unfold maxLen;omega)) (plainElem_int Tryz.underlying240 (a:=0) (by decide));refine ll 178 _ _ _ rfl (.map (some mb)) (.string x.nm) (.int .i64 0) rfl rfl rfl w9 hrun9 ?_;have HG9:=aa hg9;have HC9:=aa ((HC8.out).mapped hg9 ⟨_,_,hown9,Nat.succ_le_succ hn9⟩);clear hm9 hn9 hrun9 hown9 hg9 n9 D9;have HK9:=aa (HK8.grown HG9.out (HC8.far HK8.out));have HP9:=aa (HP8.grown HG9.out (HC8.far HP8.out));have HBL9:=aa (HC8.below HBL8.out (Nat.le_refl _) (Nat.le_trans hlo HBL8.size) (.inl HG9.out));refine so hK (⟨HC9.c0,HK9.cell 0⟩) (fun hHeld=>?_);clear hK K;refine wpAnyH_done rfl ?_ _;have d1:w9.cell? ⟨g2,1,none⟩=some (.int .i64 x.sz):=HK9.cell 1;by_cases hpos:0 < x.sz
    ·go_wp2_with fail
     clear d1;refine wp_region_held_drew (S:=fun wk=>wk.cell? ⟨g,0,none⟩=some (.map (some mb))∧wk.cell? ⟨g2,0,none⟩=some (.string x.nm)) (by kernel_rfl) ⟨(HC9.later (ac w9 _ 1)).c0,(HK9.later (ac w9 _ 1)).cell 0⟩ (fun hHeld=>?_);obtain ⟨wa,hwa⟩:∃wa,w9.drew=wa:=⟨_,rfl⟩;have hba:Below w9.heap.size w9 wa:=hwa▸ac w9 w9.heap.size 1;rw [hwa] at hHeld ⊢;have HCa:=aa (HC9.later hba);have HBLa:=aa (HBL9.trans (hba.mono (Nat.le_trans hlo HBL9.size)));have HPa:=aa (HP9.later hba);have HKa:=aa (HK9.later hba);clear hwa hba;refine tk 0 ?_;refine tk 4 ?_;refine tk 1 ?_;refine tk 5 ?_;refine tk 2 ?_;refine tk 3 ?_;refine rdw 6 (fun K hK=>?_);obtain ⟨n9,D9,hm9,hn9⟩:=(HCa.out).mp;obtain ⟨wb,hrun9,hown9,hg9⟩:=hm9.update (string_keyed Tryz.underlying9) Tryz.underlying178 (by unfold maxLen;omega) (WideMaps.keyOf_string_mk (P:=Tryz.prog) Tryz.underlying9 (s:=x.nm) (by unfold maxLen;omega)) (plainElem_int Tryz.underlying240 (a:=1) (by decide));refine ll 178 _ _ _ rfl (.map (some mb)) (.string x.nm) (.int .i64 1) rfl rfl rfl wb hrun9 ?_;have HGb:=aa hg9;have HCb:=aa ((HCa.out).mapped hg9 ⟨_,_,hown9,Nat.succ_le_succ hn9⟩);clear hm9 hn9 hrun9 hown9 hg9 n9 D9;have HKb:=aa (HKa.grown HGb.out (HCa.far HKa.out));have HPb:=aa (HPa.grown HGb.out (HCa.far HPa.out));have HBLb:=aa (HCa.below HBLa.out (Nat.le_refl _) (Nat.le_trans hlo HBLa.size) (.inl HGb.out));refine so hK (⟨HCb.c0,HKb.cell 0⟩) (fun hHeld=>?_);clear hK K;refine wpAnyH_done rfl ?_ _;go_wp2_with fail
     go_roundw
     case rel=>exact ⟨k+1,by omega,by go_num,HCb.more (by omega),HPb,HBLb,fun v hv=>by rw [cF HX.out] at hv;rcases List.mem_append.1 hv with hv | hv;exact HV.out v hv;simp at hv;subst hv;exact HYU.out⟩
     case measure=>simp [intOf];omega
    ·go_wp2_with fail
     go_roundw
     case rel=>exact ⟨k+1,by omega,by go_num,HC9.more (by omega),HP9,HBL9,fun v hv=>by rw [cF HX.out] at hv;rcases List.mem_append.1 hv with hv | hv;exact HV.out v hv;simp at hv;subst hv;exact HYU.out⟩
     case measure=>simp [intOf];omega
  ·obtain rfl:k=p.vr.N:=by omega
   have hv:∀v∈p.vrL,rg v=true:=by have:=HV.out;rwa [List.take_of_length_le (by rw [HLN.out];exact Nat.le_refl _)] at this
   have HVV:=aa hv;clear hv;have HCL:=aa (lU wr p ((HP.below hB.out).more (Nat.le_trans hlo hB.out.size)));obtain ⟨q,hq⟩:∃q,bI p.vrL=q:=⟨_,rfl⟩;rw [hq] at HCL;have HQ:=aa hq;clear hq;go_wp2_with (first | (with_reducible refine aj rfl 66 _ rfl z rfl (pgC p) 66 HKr.out _ Tryz.underlying66 rfl (db p) ?_) | (go_at_call 52;refine (HCL.out).mono ?_;rintro e w3 ⟨rfl,hb3⟩;have HB3:=aa hb3;clear hb3))
   have hbl:=hB.out.trans (HB3.mono (Nat.le_trans hlo hB.out.size));refine (aD _ _ _ (by decide) _).mono ?_;rintro e w' ⟨⟨hmb,rfl⟩ | ⟨hmb,pn,ps,rfl,hpn⟩,rfl⟩
   ·go_wp2_with fail
    refine bodyPost_end (results_none rfl _ _ _) rfl ?_;exact ⟨.inl ⟨rfl,HVV.out,by rw [HQ.out];simpa using hmb⟩,hbl,HCr.later HB3.out⟩
   ·exact aA rfl ⟨.inr ⟨pn,ps,rfl,hpn⟩,hbl,HCr.later HB3.out⟩
end Go.Proofs.YtllbdpdnpaocnaaGreatDoor
