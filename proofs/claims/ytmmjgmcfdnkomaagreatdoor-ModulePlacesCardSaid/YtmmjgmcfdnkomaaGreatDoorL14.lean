/-
  Parts of the proof: Mplaces. By an AI agent.
-/
import Derived.Test.YtmmjgmcfdnkomaaGreatDoorL11
import Derived.Test.YtmmjgmcfdnkomaaGreatDoorL13
import Derived.Deep.RegionHeld3
import Derived.Deep.CutBlock
set_option maxRecDepth 100000
set_option maxHeartbeats 8000000
namespace Go.Proofs.YtmmjgmcfdnkomaaGreatDoor
section
open Go.RowKit Go.Lib Go.Proofs Go.Joins
attribute [local go_sem ↓] Go.wp_at_zero Go.wp_at_succ
def i9 (x:lA):Prop:=x.1.size≤100∧x.2.2.2.size≤1000
def uK (n:Nat) (l:List lA) (w:World) (e:Ending) (w':World):Prop:=w=w'∧∃ b,e=.returned (.bool b)∧(b=true→n≤10∧∀ x∈l,i9 x)
theorem rl (A:Option Addr) (n c:Nat) (l:List lA) (w:World) (q:l.length=n) (Q:ae w w.heap.size 2 A n (l.flatMap fc)) :
  Calls Tryz.prog 7 #[.slice A n c,.int .i64 10] w (uK n l w):=by
 by_cases U:n≤10
 case neg=>(have h1:(n:Int)>10:=by omega);clear Q;(go_enter Tryz.func7,Tryz.ntmps7);(go_wp2_with fail);go_ret;exact ⟨rfl,_,rfl,fun h=>by cases h⟩
 (have h1:¬ (n:Int)>10:=by omega);have HR:=hid Q;have k:=hid q;clear Q q;(go_enter Tryz.func7,Tryz.ntmps7);(go_wp2_with fail);go_loopg [5] n (fun g u5 wr=>∃ i:Nat,i≤n∧n-i≤g∧u5=.int .i64 (i:Int)∧w=wr∧∀ j (h:j<l.length),j<i→i9 l[j])
 case atStart=>exact ⟨0,Nat.zero_le _,by omega,rfl,rfl,fun j _ h=>by omega⟩
 case round=>
  obtain ⟨i,hi,hg,rfl,rfl,D⟩:=hrel;have M:=hid D;clear D;by_cases J:i<n
  ·(have I:(i:Int)<(n:Int):=by omega);(have ga:(0:Int)≤(i:Int):=by omega);obtain ⟨bk,off,rfl,gb,S⟩:=HR.out.el fG (by omega) k.out J;(have K:i<l.length:=by rw [k.out];exact J);have k0:=S i K 0 _ rfl;have z:=S i K 1 _ rfl;have o:=hid (show i9 l[i]→∀ j (h:j<l.length),j<i+1→i9 l[j] from fun hp j h r=>by
    by_cases e:j=i
    ·subst e;exact hp
    ·exact M.out j h (by omega))
   unfold i9 at o;generalize l[i]=x at *;obtain ⟨nm,sa,sc,sb⟩:=x;simp only [Nat.add_zero] at k0 z o;clear S;by_cases O:nm.size≤100
   ·(have y:¬ (nm.size:Int)>100:=by omega);by_cases N:sb.size≤1000
    ·(have u:¬ (sb.size:Int)>1000:=by omega);(go_wp2_with fail);go_roundg (n-(i+1))
     case measure=>omega
     case rel=>exact ⟨i+1,by omega,by omega,by go_num,rfl,o.out ⟨O,N⟩⟩
    ·(have u:(sb.size:Int)>1000:=by omega);(go_wp2_with fail);go_ret;exact ⟨rfl,_,rfl,fun h=>by cases h⟩
   ·(have y:(nm.size:Int)>100:=by omega);(go_wp2_with fail);go_ret;exact ⟨rfl,_,rfl,fun h=>by cases h⟩
  ·(have I:¬ (i:Int)<(n:Int):=by omega);(go_wp2_with fail);go_ret;refine ⟨rfl,_,rfl,fun _=>⟨U,fun x hx=>?_⟩⟩;obtain ⟨j,r,rfl⟩:=List.mem_iff_getElem.1 hx;exact M.out j r (by have:=k.out;omega)
def sY (w:World) (B:Nat) (xs:List lA):Prop:=∀ x∈xs,w.ownsRow B 5 1 (.slice x.2.1 x.2.2.2.size x.2.2.1) x.2.2.2.size (x.2.2.2.data.toList.flatMap bN)
def la (x:lA):ByteArray × ByteArray:=(x.1,x.2.2.2)
theorem wa:(Tryz.prog.info? 5).map (fun i=>(i.zero,i.size,i.bytes))=some (some (.int .u8 0),1,1):=by kernel_rfl
theorem sZ (w:World):(w.alloc (.cells #[] 5)).ownsRow w.heap.size 5 1 (.slice (some ⟨w.heap.size,0,none⟩) 0 0) 0 []:=
 ⟨by simp,.inr ⟨w.heap.size,0,#[],rfl,Nat.le_refl _,heap_alloc_new w _,Nat.le_refl _,by unfold maxLen;omega,by simp,by simp⟩⟩
theorem rm (l:List UInt8):∀ u∈l.flatMap bN,u.oneCell'=true:=by intro u hu;obtain ⟨b,-,hb⟩:=List.mem_flatMap.1 hu;obtain rfl:=List.mem_singleton.1 hb;rfl
theorem s4 {w:World} {B:Nat} {e:TypeId} {s n:Nat} {v:Value} {xs:List Value} (h:w.ownsRow B e s v n xs):w.drew.ownsRow B e s v n xs:=bz h (Below.refl _ _).drew
def s9 (n:Nat) (l:List lA) (w:World) (e:Ending) (w':World):Prop:=∃ A' c' xs,e=.returned (.slice A' n c')∧xs.length=n∧ae w' w'.heap.size 2 A' n (xs.flatMap fc)∧iG w' w'.heap.size xs∧xs.map la=l.map la∧Below w.heap.size w w'
theorem ny (A:Option Addr) (n c:Nat) (l:List lA) (w:World) (hl:l.length=n) (hn:n≤10) (hr:ae w w.heap.size 2 A n (l.flatMap fc)) (M:iG w w.heap.size l) :
  Calls Tryz.prog 10 #[.slice A n c] w (s9 n l w):=by
 obtain ⟨i0,hi,gg,ge,gd⟩:=info_parts wa;obtain ⟨j0,hj,yk,gj,gi⟩:=info_parts md;have HR:=hid hr;have HL:=hid hl;have HX:=hid M;clear hr hl M;(go_enter Tryz.func10,Tryz.ntmps10);(go_wp2_with fail);go_loopg [3,4] n (fun g u3 u4 wr=>∃ (i:Nat) (xs:List lA),i≤n∧n-i≤g∧u4=.int .i64 (i:Int)∧xs.length=i∧wr.ownsRow w.heap.size 46 2 u3 i (xs.flatMap fc)∧sY wr w.heap.size xs∧xs.map la=(l.take i).map la∧Below w.heap.size w wr)
 case atStart=>exact ⟨0,[],Nat.zero_le _,by omega,rfl,rfl,World.ownsRow_nil _ _ _ _,nofun,by simp,Below.refl _ _⟩
 case round=>
  rename World=>wr;obtain ⟨i,xs,gp,hg,rfl,S,J,h,I,hB⟩:=hrel;have u:=hid S;have ga:=hid h;have gb:=hid I;have K:=hid J;have HB:=hid hB;have U:=hB.size;by_cases r:i<n
  ·clear S h I hB J;(have q:(i:Int)<(n:Int):=by omega);(have gq:(0:Int)≤(i:Int):=by omega);obtain ⟨bk,off,rfl,k,hc⟩:=HR.out.el fG (by omega) HL.out r;(have O:i<l.length:=by rw [HL.out];exact r);have K0:=hid (hc i O 0 _ rfl);have K1:=hid (hc i O 1 _ rfl);have z:=hid (HX.out l[i] (List.getElem_mem O));have gl:=hid (show (l.take (i+1)).map la=(l.take i).map la++[la l[i]] by rw [List.take_succ_eq_append_getElem O,List.map_append];rfl);generalize l[i]=y at *;obtain ⟨nm,sa,sc,sb⟩:=y;simp only [Nat.add_zero] at K0 K1;have k0:wr.cell? ⟨bk,off+i * 2,none⟩=some (.string nm):=(HB.out.cell (p:=⟨bk,off+i * 2,none⟩) k).trans K0.out;have k1:wr.cell? ⟨bk,off+i * 2+1,none⟩=some (.slice sa sb.size sc):=(HB.out.cell (p:=⟨bk,off+i * 2+1,none⟩) k).trans K1.out;have gm:=hid ((z.out.1.below HB.out).more U);have gn:sb.size≤100000:=z.out.2;(have j:bk<wr.heap.size:=by omega);clear hc;(go_upto_block 1 with fail);go_cut [3] (fun s3 wy=>∃ Q c1,wy.ownsRow w.heap.size 46 2 s3 (i+1) ((xs++[(nm,Q,c1,sb)]).flatMap fc)∧sY wy w.heap.size (xs++[(nm,Q,c1,sb)])∧Below w.heap.size w wy)
   case first=>
    (go_wp2_with fail);go_region_held3 (fun w'=>w'.cell? ⟨bk,off+i * 2,none⟩=some (.string nm)∧w'.cell? ⟨bk,off+i * 2+1,none⟩=some (.slice sa sb.size sc))
     (first
      | (go_keep;done)
      | (refine ⟨?_,?_⟩ <;> (rw [D.cell (by exact j)];first | exact k0 | exact k1))
      | (refine ⟨?_,?_⟩ <;> (rw [N.cell (by exact k)];first | exact K0.out | exact K1.out))
      | (refine ⟨?_,?_⟩ <;> (rw [World.cell?_alloc_lt _ _ _ (by exact Nat.lt_of_lt_of_le j D.size),D.cell (by exact j)];first | exact k0 | exact k1)))
     ((first
       | (refine ed _ (by rfl) (.tmp 17) (.tmp 22) _ (by rfl) wr.heap.size 5 i0 _ 1 1 Tryz.underlying22 hi gg ge gd (by rfl) (by omega) (.slice (some ⟨wr.heap.size,0,none⟩) 0 0) 0 [] (by rfl) (s4 (sZ wr)) wr.heap.size sa sb.size sc (sb.data.toList.flatMap bN) (by rfl) ((gm.out.alloc (Nat.le_refl _) _).drew) (rm _) (by unfold maxLen;omega) (by omega) (by simp) ?_;intro v1 w1 hown1 hg1 hat1;have D:Below wr.heap.size wr w1:=(((Below.refl wr.heap.size wr).alloc (Nat.le_refl _) _).drew).grown hg1 (by simp) (by simp [Value.ownBlock]);obtain ⟨Q,c1,rfl,gr⟩:=bG hown1)
       | (refine ed _ (by rfl) (.tmp 11) (.tmp 25) _ (by rfl) w.heap.size 46 j0 _ 2 40 Tryz.underlying35 hj yk gj gi (by rfl) (by omega) u3 i (xs.flatMap fc) (by rfl) (World.ownsRow.alloc (bz K.out D) _) (w1.heap.size+1) (some ⟨w1.heap.size,0,none⟩) 1 1 [.string nm,.slice Q sb.size c1] (by rfl) (aX (fr:=(0,0)) (t:=46) (heap_alloc_new w1 _) (by rfl) (Nat.lt_succ_self _)) (by simp [Value.oneCell']) (by unfold maxLen;omega) (by omega) (by have:=D.size;rw [World.size_alloc];omega) ?_;intro v2 w2 hown2 hg2 hat2;have N:Below w.heap.size w w2:=(HB.out.trans (D.mono U)).alloc (by have:=D.size;omega) _ |>.grown hg2 (by have:=D.size;rw [World.size_alloc];omega) (fun g hg=>(K.out.lt g hg).1))))
    (all_goals go_wp2_with fail);(all_goals go_meet);all_goals
     refine ⟨Q,c1,by rw [List.flatMap_append];exact hown2,fun x M=>?_,N⟩;have o:=World.ownsRow.alloc (bz K.out D) (.cells #[.string nm,.slice Q sb.size c1] 46);rcases List.mem_append.1 M with M | M
     ·exact dB o (World.ownsRow.alloc (bz (ga.out x M) D) _) (by decide) hg2
     ·obtain rfl:=List.mem_singleton.1 M;rw [Nat.zero_add,List.nil_append] at hown1;exact dB o (World.ownsRow.alloc (oe hown1 U) _) (by decide) hg2
   case rest=>
    obtain ⟨Q,c1,h1,h2,h3⟩:=hcut;clear k0 k1;(go_wp2_with fail);go_roundg (n-(i+1))
    case measure=>omega
    case rel=>exact ⟨i+1,xs++[(nm,Q,c1,sb)],by omega,by omega,by go_num,by simp [u.out],h1,h2,by rw [List.map_append,gb.out,gl.out];rfl,h3⟩
  ·(have q:¬ (i:Int)<(n:Int):=by omega);(obtain rfl:i=n:=by omega);rw [List.take_of_length_le (by have:=HL.out;omega)] at I;obtain ⟨A',c',rfl,-⟩:=bG J;clear J h hB S;(go_wp2_with fail);go_ret;refine ⟨A',c',xs,rfl,u.out,ae.of_own K.out,fun x M=>⟨ae.of_own (ga.out x M),?_⟩,I,HB.out⟩;have hk:la x∈l.map la:=I▸List.mem_map_of_mem M;obtain ⟨y,hy,gh⟩:=List.mem_map.1 hk;have:=(HX.out y hy).2;rw [show x.2.2.2=y.2.2.2 from (congrArg Prod.snd gh).symm];exact this
theorem iy (f:ByteArray) (a:Int):∀ (xs ys:List lA),xs.map la=ys.map la→aR xs f a=aR ys f a
 | [],[],_=>rfl
 | [],y::ys,h=>by simp at h
 | x::xs,[],h=>by simp at h
 | x::xs,y::ys,h=>by simp only [List.map_cons,List.cons.injEq] at h;obtain ⟨I,D⟩:=h;obtain ⟨K,J⟩:=Prod.mk.inj I;unfold aR;rw [K,J,iy f a xs ys D]
theorem wb (x y u v:Int) (W:World):(binOp .eql 50 (.agg #[.int .i64 x,.int .i64 y]) (.agg #[.int .i64 u,.int .i64 v])).run Tryz.prog W=.ok (.bool (x==u&&y==v)) W:=by rw [run_eql_struct];cases I:(x==u) <;> cases D:(y==v) <;> simp [go_sem,I,D]
theorem oO (A:Option Addr) (n c:Nat) (l:List lA) (s:ByteArray) (m:Int) (w:World) (hl:l.length=n) (hr:ae w w.heap.size 2 A n (l.flatMap fc)) (hx:∀ x∈l,ae w w.heap.size 1 x.2.1 x.2.2.2.size (x.2.2.2.data.toList.flatMap bN)) (hT:cI w) :
  Calls Tryz.prog 6 #[.slice A n c,.string s,.int .i64 m] w fun e w'=>e=.returned (.bool true)∧Below w.heap.size w w':=by
 have gm:=hid (rl A n c l w hl hr);have HR:=hid hr;have HL:=hid hl;have HX:=hid hx;have HT:=hid hT;clear hr hl hx hT;(go_enter Tryz.func6,Tryz.ntmps6);(go_wp2_with fail);refine gm.out.mono ?_;rintro e w1 ⟨rfl,b,rfl,hb⟩;cases b
 ·clear hb;(go_wp2_with fail);go_ret;exact ⟨rfl,Below.refl _ _⟩
 obtain ⟨hn,gb⟩:=hb rfl;have S:iG w w.heap.size l:=fun x hx=>⟨HX.out x hx,by have:=(gb x hx).2;omega⟩;have HS:=hid (ny A n c l w HL.out hn HR.out S);have gs:=hid S;clear hb gb gm HX S;(go_wp2_with fail);refine HS.out.mono ?_;rintro e w2 ⟨A2,c2,xs,rfl,z,gd,ga,Q,gi⟩;have HP:=hid (lZ A2 n c2 xs (⟨#[]⟩:BA) s m w2 z (by omega) gd ga);rw [iy s m xs l Q] at HP;have gp:=hid gi;clear gd ga Q gi HS z;(go_wp2_with fail);refine HP.out.mono ?_;rintro e u ⟨rfl,M⟩;have M:=ah gp.out M;clear HP gp;have U:=ac.new u 50 #[.int .i64 (aR l s m).1,.int .i64 (aR l s m).2];have gj:Below u.heap.size u (u.alloc (.cells #[.int .i64 (aR l s m).1,.int .i64 (aR l s m).2] 50)):=bel;have o:=ah M gj;obtain ⟨P,hP⟩:∃ P,aR l s m=P:=⟨_,rfl⟩;rw [hP] at U o ⊢;have gl:=hid hP;have D:=hid o;obtain ⟨x0,x1,-,-⟩:=bp U;clear gj M o U;have gr:=hid (HR.out.below D.out);(go_upto_region 4 with fail);generalize u.alloc (.cells #[.int .i64 P.1,.int .i64 P.2] 50)=X at *;have gq:=hid (fy X (HT.out.below D.out));(go_wp2_with fail);go_loopg [8,9,10] n (fun g u8 u9 u10 wr=>∃ i:Nat,i≤n∧n-i≤g∧u8=.int .i64 (i:Int)∧X=wr∧∀ j (h:j<l.length),j<i→l[j].1≠s)
 case atStart=>exact ⟨0,Nat.zero_le _,by omega,rfl,rfl,fun j _ h=>by omega⟩
 case round=>
  obtain ⟨i,hi,hg,rfl,rfl,ge⟩:=hrel;have q:=hid ge;clear ge;by_cases gh:i<n
  ·(have gg:(i:Int)<(n:Int):=by omega);(have gu:(0:Int)≤(i:Int):=by omega);obtain ⟨bk,off,rfl,gv,hc⟩:=gr.out.el fG (by omega) HL.out gh;(have K:i<l.length:=by rw [HL.out];exact gh);have k0:=hc i K 0 _ rfl;have k1:=hc i K 1 _ rfl;have yk:=hid (gs.out l[i] (List.getElem_mem K));have N:=hid ((bS l s m i q.out).symm.trans gl.out);have gn:=hid (show l.drop i=l[i]::l.drop (i+1) from List.drop_eq_getElem_cons K);have O:=hid (show l[i].1≠s→∀ j (h:j<l.length),j<i+1→l[j].1≠s from fun hp j h hj=>by
    by_cases e:j=i
    ·subst e;exact hp
    ·exact q.out j h (by omega))
   rw [gn.out] at N;clear gn;generalize l[i]=y at *;obtain ⟨nm,sa,sc,sb⟩:=y;simp only [Nat.add_zero] at k0 k1 O;clear hc;by_cases r:nm=s
   ·(have H1:(nm.toList==s.toList)=true:=by rw [db];simpa using r);have I:bR sb m=P:=by
     have:=N.out;unfold aR at this
     rwa [if_pos r] at this
    have HO:=hid (rk sa sc sb m X yk.out.2 ((yk.out.1.below D.out).more D.out.size));rw [I] at HO;have e1:=wb P.1 P.2 P.1 P.2;rw [beq_self_eq_true,beq_self_eq_true] at e1;clear r I N O;(go_wp2_with fail);refine HO.out.mono ?_;rintro e w4 ⟨rfl,rfl⟩;(go_wp2_with fail);refine gq.out.mono ?_;rintro e w5 ⟨rfl,J⟩;have k:=ah D.out J;clear J;(go_wp2_with fail);go_ret;exact ⟨rfl,k⟩
   ·(have H1:(nm.toList==s.toList)=false:=by rw [db];simpa using r);have gt:=hid (O.out r);clear r N O;(go_wp2_with fail);go_roundg (n-(i+1))
    case measure=>omega
    case rel=>exact ⟨i+1,by omega,by omega,by go_num,rfl,gt.out⟩
  ·(have gg:¬ (i:Int)<(n:Int):=by omega);(have I:P=(0,0):=by have:=(bS l s m i q.out).symm.trans gl.out;rw [List.drop_eq_nil_of_le (by have:=HL.out;omega)] at this;exact this.symm);have e1:=wb 0 0 0 0;rw [beq_self_eq_true] at e1;rw [I] at x0 x1;clear I;(go_wp2_with fail);refine gq.out.mono ?_;rintro e w5 ⟨rfl,J⟩;have k:=ah D.out J;clear J;(go_wp2_with fail);go_ret;exact ⟨rfl,k⟩
end
end Go.Proofs.YtmmjgmcfdnkomaaGreatDoor
