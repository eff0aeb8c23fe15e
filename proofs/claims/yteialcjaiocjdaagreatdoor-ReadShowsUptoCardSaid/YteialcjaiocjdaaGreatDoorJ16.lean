/-
  Parts of the proof: Usame Sadd Sline Rrg1 Rrg2. By an AI agent.
-/
import Derived.Test.YteialcjaiocjdaaGreatDoorJ13
import Derived.Test.YteialcjaiocjdaaGreatDoorJ02
import Derived.Test.YteialcjaiocjdaaGreatDoorJ00
import Derived.Test.YteialcjaiocjdaaGreatDoorJ05
import Derived.Test.YteialcjaiocjdaaGreatDoorJ10
import Derived.Test.YteialcjaiocjdaaGreatDoorJ08
import Derived.Test.YteialcjaiocjdaaGreatDoorJ01
import Derived.BigQuiet
import Derived.Deep.LoopGhost
import Derived.Lib.Join
import Derived.Laws.Slices
open Go.Proofs.Tryz
set_option maxRecDepth 100000
set_option maxHeartbeats 8000000
namespace Go.Proofs.YteialcjaiocjdaaGreatDoor
section
open Go.RowKit Go.Lib Go.Proofs
attribute [local go_sem ↓] Go.wp_at_zero Go.wp_at_succ
theorem qL:type_of% @List.length_take:=@List.length_take
theorem qM:type_of% @Go.World.ownsRow.form:=@Go.World.ownsRow.form
theorem qN:type_of% @List.take_append_drop:=@List.take_append_drop
theorem qT:type_of% @Go.World.ownsRow.cellAt:=@Go.World.ownsRow.cellAt
theorem vo:type_of% @Nat.lt_succ_self:=@Nat.lt_succ_self
theorem bi.get:∀{l m:List Nd}(_:bi l m)(i:Nat)(I:i<l.length)(D:i<m.length),ci l[i] m[i]
 |[],_,_,_,I,_=>absurd I (by simp)
 |_::_,[],_,_,_,D=>absurd D (by simp)
 |a::l,b::m,h,i,I,D=>by
  unfold bi at h;rw[nW,nW]at h;injection h with J h2;cases i with
  |zero=>exact J
  |succ i=>exact bi.get (show bi l m from h2) i (by simpa using I) (by simpa using D)
theorem AM:∀(d:Nat)(v u:Value)(n m:Nd)(w:World),d<=1000->aF w v n->aF w u m->ci n m->df d n ->
  Calls prog 8 #[v,u,(d:Int)] w fun e w'=>e=.returned (.bool true)/\Below w w w':=by
 intro d;induction d with
 |zero=>intro v u n m w _ _ _ _ h;exact h.elim
 | succ d ih=>
  intro v u n m w hd hv hu he hl;obtain⟨k,t,l,a⟩:=n;obtain⟨k',t',l',a'⟩:=m;obtain rfl:k=k':=he.kind;obtain rfl:t=t':=he.text;have gd:Hid (bi l l'):=hid he.kids;have D:l'.length=l.length:=gd.out.len.symm;have HV:=hid hv;have HU:=hid hu;have HI:=hid ih;have HD:Hid (∀k∈l,df d k):=hid hl.2;have gm:l.length<=1000000000:=hl.1.1;obtain⟨A,cp,rfl,hC⟩:=hv.toC;obtain⟨B,cq,rfl,ge⟩:=hu.toC;clear hv hu hC ge he hl ih;simp only[Nd.kids_mk,Nd.kind_mk,Nd.text_mk,Nd.pos_mk]at *;(have gl:((l.length:Int) != (l'.length:Int))=false:=by rw[D];simp);(have yk:((l.length:Int)==(l'.length:Int))=true:=by rw[D];simp);have gb:=hid D;(have hz:((d:Int)+1==0)=false:=by simp;omega);have hB:=((gH w.heap.size w).alloc (gC _) (.cells #[.int .i64 k,.string t,.slice A l.length cp,.int .i64 a] 24)).alloc (by simp) (.cells #[.int .i64 k,.string t,.slice B l'.length cq,.int .i64 a'] 24);have U:=(show aq (w.alloc (.cells #[.int .i64 k,.string t,.slice A l.length cp,.int .i64 a] 24)) w.heap.size 24 #[.int .i64 k,.string t,.slice A l.length cp,.int .i64 a]from aq.new w _ _).alloc (.cells #[.int .i64 k,.string t,.slice B l'.length cq,.int .i64 a'] 24);have O:aq ((w.alloc (.cells #[.int .i64 k,.string t,.slice A l.length cp,.int .i64 a] 24)).alloc (.cells #[.int .i64 k,.string t,.slice B l'.length cq,.int .i64 a'] 24)) (w.heap.size+1) 24 #[.int .i64 k,.string t,.slice B l'.length cq,.int .i64 a']:=aq.new_at (by simp) _ _;clear D;(go_enter func8,ntmps8);go_wp2_with fail;go_loopg [7] l.length (fun g1 u7 wr=>∃(i:Nat),i<=l.length/\l.length-i<=g1/\u7=.int .i64 (i:Int)/\Below w w wr/\aq wr w.heap.size 24 #[.int .i64 k,.string t,.slice A l.length cp,.int .i64 a]/\aq wr (w.heap.size+1) 24 #[.int .i64 k,.string t,.slice B l'.length cq,.int .i64 a'])
  case atStart=>exact⟨0,gQ _,by omega,rfl,hB,U,O⟩
  case round=>
   clear U O hB;obtain⟨i,hi,hg,rfl,hB,U,O⟩:=hrel;obtain⟨x0,x1,x2,x3,-,-,-,-⟩:=ab U;obtain⟨y0,y1,y2,y3,-,-,-,-⟩:=ab O;by_cases M:i<l.length
   ·(have ga:(i:Int)<(l.length:Int):=by omega);(have N:i<l'.length:=by rw[gb.out];exact M);(have gj:(i:Int)<(l'.length:Int):=by omega);(have h0:(0:Int)<=(i:Int):=by omega);obtain⟨bp,op,A1,gi,rfl,hp⟩:=bC (af.below HV.out hB) i M;obtain⟨bq,oq,A2,gh,rfl,hq⟩:=bC (af.below HU.out hB) i N;simp only[Nd.kids_mk]at hp hq;have HC:=hid (fun n:Wd (Below wr wr)=>HI.out _ _ l[i] l'[i] n.wd (by omega) (hp.below n.ok).2.2.2.2 (hq.below n.ok).2.2.2.2 (gd.out.get i M N) (HD.out _ (gS M)));have J:∀n:Wd (Below wr wr),C4 n.wd bp (op+i*4) l[i] A1 gi:=fun n=>hp.below n.ok;have I:∀n:Wd (Below wr wr),C4 n.wd bq (oq+i*4) l'[i] A2 gh:=fun n=>hq.below n.ok;generalize l[i]=x at *;generalize l'[i]=y at *;have k0:=fun n=>(J n).1;have k1:=fun n=>(J n).2.1;have k2:=fun n=>(J n).2.2.1;have k3:=fun n=>(J n).2.2.2.1;have m0:=fun n=>(I n).1;have m1:=fun n=>(I n).2.1;have m2:=fun n=>(I n).2.2.1;have m3:=fun n=>(I n).2.2.2.1;have kx:∀n:Wd (Below wr wr),n.wd.cell? ⟨w,2,none⟩=some (.slice (some ⟨bp,op,none⟩) l.length cp):=fun n=>(n.ok.cell (jD wr _ x2)).trans x2;have ky:∀n:Wd (Below wr wr),n.wd.cell? ⟨w.heap.size+1,2,none⟩=some (.slice (some ⟨bq,oq,none⟩) l'.length cq):=fun n=>(n.ok.cell (jD wr _ y2)).trans y2;clear hp hq J I;go_wp2_with fail;refine cF wr ?_;(repeat(go_big_quiet_step ((go_at_call 8;rename_i n;refine(HC.out n).mono ?_;rintro e w'⟨rfl,hb⟩;exact⟨rfl,⟨w',au n.ok hb⟩,rfl⟩))));refine jQ ?_;intro n;have gg:=au hB n.ok;have b3:=U.bl n.ok;have b4:=O.bl n.ok;clear U O HC k0 k1 k2 k3 x0 x1 x2 x3 m0 m1 m2 m3 y0 y1 y2 y3 kx ky;go_wp2_with fail;go_roundg (l.length-(i+1))
    case measure=>omega
    case rel=>exact⟨i+1,by omega,gC _,by go_num,gg,b3,b4⟩
   ·(have ga:¬ (i:Int)<(l.length:Int):=by omega);go_wp2_with fail;go_ret;exact⟨rfl,hB⟩
end
section
open Go.RowKit Go.Lib Go.Proofs
attribute [local go_sem ↓] Go.wp_at_zero Go.wp_at_succ
attribute [local go_sem] aR aS aT
theorem ud(X:Nat)(s:ByteArray)(i:Nat)(l:List ef)(k:Int)(j:Nat)(hj:j<=i)(hl:l.length+1<=65537)(w:World)(h:mc w X s i l):
  Calls prog 126 #[X,k,(j:Int)] w (yO X s w i (l++[⟨k,s.extract j i,j⟩]) (.tuple #[])):=by
 obtain⟨lv,D⟩:=h.out;have hb:=D.blk;have U:=D.toks;have ga:=hb.lt;have N:=h.le;have J:=h.most;obtain⟨A0,c0,M,_⟩:=U.form;subst M;obtain⟨x0,x1,x2,x3,f0,f1,f2,f3⟩:=ab hb;(have p0:(0:Int)<=(j:Int):=by omega);(have p1:(j:Int)<=(i:Int):=by omega);(have p2:(i:Int)<=(s.size:Int):=by omega);(go_enter func126,ntmps126);go_wp2_with fail;go_region_law (first
  |(refine DT (by rfl) (.tmp 10) (.tmp 24) (by rfl) (X+1) _ _ l ⟨k,s.extract j i,j⟩ (by rfl) _ (by rfl) (by simp) (U.below (gH _ _).drew) (by simp;omega) (by omega) ?_;intro g c w1 I;have O:=(aq.drew hb).below I.bel (vo _);obtain⟨z0,z1,z2,z3,y0,y1,y2,y3⟩:=ab O))
 all_goals go_end0;exact⟨rfl,⟨⟨_,(D.below (gH _ _).drew).row I⟩,N,J,by rw[gM];simpa using hl⟩,((gH X w).drew.trans (I.bel.mono (jN _))).setCell (gC _) _⟩
def nG:ByteArray:=(⟨#[32,43,43,32,45,45,32,41,32,93,32,125,32]⟩:BA)
def o6(t:ef):Bool:=
 if t.kind=1\/t.kind=4\/t.kind=5 then true
 else if t.kind=2\/t.kind=3 then decide (t.text=(⟨#[98,114,101,97,107]⟩:BA))||(decide (t.text=(⟨#[99,111,110,116,105,110,117,101]⟩:BA))||(decide (t.text=(⟨#[114,101,116,117,114,110]⟩:BA))||decide (t.text=(⟨#[102,97,108,108,116,104,114,111,117,103,104]⟩:BA))))
 else Lib.contains nG.data.toList ((⟨#[32]⟩++t.text++⟨#[32]⟩:ByteArray)).data.toList
def dU(l:List ef):Bool:=match l.getLast? with
 |none=>false
 |some t=>o6 t
theorem mw.at_{B:Nat}{w:World}{v:Value}{l:List ef}(h:mw B w v l)(i:Nat)(D:i<l.length):
  ∃g c,v=.slice (some ⟨g,0,none⟩) l.length c/\B<=g/\g<w.heap.size/\w.cell? ⟨g,i*3,none⟩=some (.int .i64 l[i].kind)/\w.cell? ⟨g,i*3+1,none⟩=some (.string l[i].text)/\w.cell? ⟨g,i*3+2,none⟩=some (.int .i64 l[i].pos):=by obtain⟨g,c,I,hg,J⟩:=qM h (by omega);obtain⟨A,c',e,_⟩:=h.form;rw[I]at e;injection e with e1 e2 e3;subst e1 e3;have hr:=co.of_own (I▸h:w.ownsRow B _ 3 (.slice (some ⟨g,0,none⟩) l.length c) l.length (l.flatMap nB));obtain⟨b,off,N,hb,M⟩:=hr.el fL (by omega) rfl D;injection N with N;injection N with e4 e5;subst e4 e5;have k0:=M i D 0 _ rfl;have U:=M i D 1 _ rfl;have O:=M i D 2 _ rfl;simp only[kR,gZ]at k0 U O;exact⟨g,c,I,hg,J,k0,U,O⟩
theorem TI{w:World}{g:Nat}{t:TypeId}{a b c:Value}(h:aq w g t #[a,b,c]):w.cell? ⟨g,0,none⟩=some a/\w.cell? ⟨g,1,none⟩=some b/\w.cell? ⟨g,2,none⟩=some c:=by have c0:=h.cell 0;have c1:=h.cell 1;have c2:=h.cell 2;simp at c0 c1 c2;exact⟨c0,c1,c2⟩
theorem DU(X:Nat)(s:ByteArray)(i:Nat)(l:List ef)(w:World)(h:mc w X s i l)(hT:dw w)(M:∀t∈l,t.text.size<=65536):
  Calls prog 131 #[X] w fun e w'=>e=.returned (.bool (dU l))/\Below w w w':=by
 obtain⟨lv,O⟩:=h.out;have hb:=O.blk;have hO:=O.toks;have gh:=hb.lt;have gd:=h.few;obtain⟨A0,c0,N,ge⟩:=hO.form;obtain⟨x0,x1,x2,x3,-,-,-,-⟩:=ab hb;rw[N]at x2;by_cases hl:l.length=0
 ·have hE:Hid (dU l=false):=hid (by rw[jS hl];rfl);rw[hl]at x2;(go_enter func131,ntmps131);go_wp2_with fail;go_ret;exact⟨by rw[hE.out];rfl,gH _ _⟩
 ·obtain⟨g,c,hv,hg,gi,k0,k1,k2⟩:=hO.at_ (l.length-1) (by omega);rw[N]at hv;injection hv with e1 e2 e3;subst e1 e3;(have J:l.getLast? = some (l[l.length-1]'(by omega)):=by rw[List.getLast?_eq_getElem?,gT]);have HE:=hid (show dU l=o6 (l[l.length-1]'(by omega))by unfold dU;rw[J]);have gb:=hid (M _ (gS (show l.length-1<l.length by omega)));generalize l[l.length-1]'(by omega)=t at *;obtain⟨tk,tt,tp⟩:=t;simp only at k0 k1 k2;(have gg:((l.length:Int)==0)=false:=by rw[gF];omega);(have p1:(0:Int)<=(l.length:Int)-1:=by omega);(have p2:(l.length:Int)-1<(l.length:Int):=by omega);(have p3:(1:Int)<=(l.length:Int):=by omega);(have q2:((l.length:Int)-1).toNat=l.length-1:=by omega);have q1:IntKind.i64.wrap ((l.length:Int)-1)=(l.length:Int)-1:=jC _ (by omega);have HT:=hid hT;clear J hT M;(go_enter func131,ntmps131);(go_upto_region 3 with fail);go_cut [3] (fun s3 wx=>∃b,s3=.pointer (some ⟨b,0,none⟩)/\aq wx b 63 #[.int .i64 tk,.string tt,.int .i64 tp]/\Below w w wx)
  case first=>go_region_law (fail);all_goals(go_wp2_with fail);go_meet;exact⟨_,rfl,(aq.new _ _ _).drew,((gH _ _).alloc (gC _) _).drew⟩
  case rest=>
   obtain⟨b,rfl,hB,D⟩:=hcut;obtain⟨y0,y1,y2⟩:=TI hB;have ga:=hid (fk nG (⟨#[32]⟩++tt++⟨#[32]⟩) wc (HT.out.below D) (by unfold nG;simp[ByteArray.size]));clear k0 k1 k2 x0 x1 x2 x3 hB;by_cases U:tk=1\/tk=4\/tk=5
   ·have I:Hid (dU l=true):=hid (by rw[HE.out,o6,gG U]);rcases U with rfl|rfl|rfl;all_goals(go_wp2_with fail);go_ret;exact⟨by rw[I.out];rfl,D⟩
   ·by_cases h2:tk=2\/tk=3
    ·have I:=hid (show dU l=((tt.toList==[98,114,101,97,107])||((tt.toList==[99,111,110,116,105,110,117,101])||((tt.toList==[114,101,116,117,114,110])||(tt.toList==[102,97,108,108,116,104,114,111,117,103,104]))))by rw[HE.out,o6,gB U,gG h2,<-cy tt [98,114,101,97,107],<-cy tt [99,111,110,116,105,110,117,101],<-cy tt [114,101,116,117,114,110],<-cy tt [102,97,108,108,116,104,114,111,117,103,104]]);cases g1:(tt.toList==[98,114,101,97,107])<;>cases g2:(tt.toList==[99,111,110,116,105,110,117,101])<;>cases g3:(tt.toList==[114,101,116,117,114,110])<;>cases g4:(tt.toList==[102,97,108,108,116,104,114,111,117,103,104])<;>rcases h2 with rfl|rfl
     all_goals rw[g1,g2,g3,g4]at I;go_wp2_with fail;go_ret;exact⟨by rw[I.out];rfl,D⟩
    ·have I:Hid (dU l=Lib.contains nG.data.toList ((⟨#[32]⟩++tt++⟨#[32]⟩:ByteArray)).data.toList):=hid (by rw[HE.out,o6,gB U,gB h2]);generalize Lib.contains nG.data.toList ((⟨#[32]⟩++tt++⟨#[32]⟩:ByteArray)).data.toList=q at *;(have e1:(tk==1)=false:=by rw[gF];omega);(have e2:(tk==2)=false:=by rw[gF];omega);(have e3:(tk==3)=false:=by rw[gF];omega);(have e4:(tk==4)=false:=by rw[gF];omega);(have e5:(tk==5)=false:=by rw[gF];omega);clear U h2;unfold nG at ga;have M:tt.size<=65536:=gb.out;go_wp2_with fail;refine ga.out.mono ?_;rintro e w2⟨rfl,rfl⟩;go_wp2_with fail;go_ret;exact⟨by rw[I.out];rfl,D⟩
structure sh(w:World)(g:Nat)(b off c:Nat)(l:List ef):Prop where
 box:w.cell? ⟨g,0,none⟩=some (.slice (some ⟨b,off,none⟩) l.length c)
 le:l.length<=c
 lt:b<w.heap.size
 cells:∀(j:Nat)(u:Value),(l.flatMap nB)[j]? = some u->w.cell? ⟨b,off+j,none⟩=some u
theorem sh.below{w w':World}{g b off c:Nat}{l:List ef}(h:sh w g b off c l)(hb:Below w w w'):sh w' g b off c l:=
 ⟨cell_kept hb h.box,h.le,kK h.lt hb.size,fun j u hu=>cell_kept hb (h.cells j u hu)⟩
theorem sh.tok{w:World}{g b off c:Nat}{l:List ef}(h:sh w g b off c l)(i:Nat)(D:i<l.length):
  w.cell? ⟨b,off+i*3,none⟩=some (.int .i64 l[i].kind)/\w.cell? ⟨b,off+i*3+1,none⟩=some (.string l[i].text)/\w.cell? ⟨b,off+i*3+2,none⟩=some (.int .i64 l[i].pos):=by
 refine⟨h.cells (i*3) _ ?_,h.cells (i*3+1) _ ?_,h.cells (i*3+2) _ ?_⟩
 ·have:=i6 fL l i 0 D (by omega);rw[gZ]at this;rw[this];rfl
 ·rw[i6 fL l i 1 D (by omega)];rfl
 ·rw[i6 fL l i 2 D (by omega)];rfl
theorem si(g b off c:Nat)(l:List ef)(n:Nat)(w:World)(h:sh w g b off c l):
  Calls prog 226 #[(n:Int),g] w fun e w'=>e=.returned (.bool (decide (n<l.length)&&((l.getD n ⟨0,⟨#[]⟩,0⟩).kind==1)))/\w=w':=by
 have hb:=h.box;by_cases D:n<l.length
 ·obtain⟨N,M,J⟩:=h.tok n D;(have e:l.getD n ⟨0,⟨#[]⟩,0⟩=l[n]:=by rw[jB,gT D];rfl);rw[e,jK D,jP];(have I:(l.length:Int)>(n:Int):=by omega);(have U:(0:Int)<=(n:Int):=by omega);clear h e;generalize l[n]=t at *;cases O:(t.kind==1);all_goals(go_enter func226,ntmps226);go_wp2_with fail;go_ret;exact⟨rfl,rfl⟩
 ·(have I:¬ (l.length:Int)>(n:Int):=by omega);rw[gP D,jA];clear h;(go_enter func226,ntmps226);go_wp2_with fail;go_ret;exact⟨rfl,rfl⟩
theorem CG(l:List ef)(i:Nat)(I:i<l.length)(D:l[i].kind=5):dl l=(⟨#[]⟩:BA):=by unfold dl;rw[gG];rw[qK];exact⟨l[i],gS I,by simp[D]⟩
theorem G0(r:List ef):∀a:ByteArray,(r.foldl (fun a u=>a++(⟨#[32]⟩:BA)++u.text) a).data.toList=a.data.toList++Lib.joinTail [32] (r.map fun t=>t.text.data.toList):=by
 induction r with
 |nil=>intro a;simp[Lib.joinTail]
 |cons t r ih=>intro a;rw[vd,ih];simp[Lib.joinTail]
theorem CH(t:ef)(r:List ef)(h:(t::r).any (fun t=>t.kind==5)=false):dl (t::r)=⟨(Lib.join (((t::r).map (·.text)).map (·.data.toList)) ((⟨#[32]⟩:BA):ByteArray).data.toList).toArray⟩:=by unfold dl;rw[gB (by rw[h];decide)];apply qI;apply Array.toList_inj.1;show(r.foldl (fun a u=>a++(⟨#[32]⟩:BA)++u.text) t.text).data.toList=_;rw[G0];simp[Lib.join_cons];rfl
theorem Sy:(prog.info? 9).map (fun i=>(i.zero,i.size,i.bytes))=some (some (.string ⟨#[]⟩),1,16):=by kernel_rfl
theorem L8:prog.underlying 50=some (.slice (prog.elem 50)):=by kernel_rfl
theorem Po:prog.elem 50=63:=by kernel_rfl
theorem L9(w:World):(sizeOf (prog.elem 50)).run prog w=.ok 3 w:=by rw[Po];exact sizeOf63 w
theorem Ma(b off q c k:Nat)(I:k<=q)(D:q<=c)(W:World):(Instr.slice 50 (.slice (some ⟨b,off,none⟩) q c) none (some (.int .i64 (k:Int))) none).run prog W=.ok (.slice (some ⟨b,off,none⟩) k c) W:=by rw[run_slice_h (P:=prog) W 50 (some ⟨b,off,none⟩) q c L8 .i64 (k:Int) (by omega) (by omega),L9];simp only[Result.andThen,sliced,jF,qf,oX,gZ,ite_self,Int.toNat_natCast,Nat.sub_zero]
def CI(B:Nat)(w:World)(v:Value)(l:List ByteArray):Prop:=w.ownsRow B 9 1 v l.length (l.map Value.string)
theorem CI.nil(B:Nat)(w:World):CI B w (.slice none 0 0) []:=qS _ _ _ _
theorem Be{ops:Array Oper}{rest:List Oper}{o:Oper}{a:Act}{Q:Exit->Act->World->Prop}(M:o.guard=none)(s x:Operand)
  (ho:o.op=.call { callee:=.builtin .append,args:=#[s,x],argTypes:=#[84,84] })
  (B:Nat)(w1:World)(u:Value)(l:List ByteArray)(t:ByteArray)(hs:a.eval s=u)(S:Nat)(U:a.eval x=.slice (some ⟨S,0,none⟩) 1 1)(hS:w1.heap.size=S)
  (N:CI B w1 u l)(hB:B<=w1.heap.size)(hl:l.length<=1000000)
  (h:∀v' w2,CI B w2 v' (l++[t])->Below B w1 w2->wpList prog ops Q rest (a.put o.dst v') w2):
  wpList prog ops Q (o::rest) a (w1.alloc (.cells #[t] 9)):=by
 subst hS;obtain⟨O,hi,J,I,D⟩:=qE Sy;refine rV (w1.alloc (.cells #[t] 9)) M s x 84 ho B 9 O _ 1 16 underlying84 hi J I D rfl (by omega) u l.length _ hs (qZ N _) (w1.heap.size+1) (some ⟨w1,0,none⟩) 1 1 [.string t] U
  (uB (fr:=(0,0)) (t:=9) (qq w1 _) rfl (vo _)) (by simp[Value.oneCell']) (by unfold maxLen;omega) (by omega) (by simp;omega) ?_
 intro v' w2 hown hg _;refine h v' w2 ?_ (((gH B w1).alloc hB _).grown hg (by simp;omega) (fun g hg=>(va N g hg).1));unfold CI;rw[kS,gM];exact hown
theorem Ek(l:List ByteArray)(h:∀t∈l,t.size<=1000000000)(D:l.length<=5):(Lib.join (l.map (·.data.toList)) [32]).length<=140737488355328:=by
 rcases l with _|⟨x,r⟩
 ·simp[Lib.join]
 ·rw[jT,Lib.join_length];have:∀l:List ByteArray,(∀t∈l,t.size<=1000000000)->Lib.lens (l.map (·.data.toList))<=l.length*1000000000:=by
   intro l;induction l with
   |nil=>intro _;simp[Lib.lens]
   |cons y l ih=>intro h;have I:=ih fun t ht=>h t (qn _ ht);have J:=h y vb;unfold Lib.lens at I |-;simp only[jT,List.sum_cons,gO];rw[show y.data.toList.length=y.size from rfl];omega
  have:=this (x::r) h;rw[jT]at this;simp at D |-;simp at this;omega
theorem y8(g b off c:Nat)(l:List ef)(n:Nat)(gp:3<=n)(gn:n<=5)(hl:3<=l.length)(gq:l.length<=1000000)(U:∀t∈l,t.text.size<=1000000000)(w:World)(h:sh w g b off c l):
  Calls prog 224 #[(n:Int),g] w fun e w'=>e=.returned (.string (dl (l.take n)))/\Below w w w':=by
 have HT:=hid h;have gw:=h.box;obtain⟨m,hm,g5,g4,gr,gd⟩:∃m:Nat,min (n:Int) (l.length:Int)=(m:Int)/\3<=m/\m<=5/\m<=l.length/\l.take n=l.take m:=by
  by_cases I:n<=l.length
  ·exact⟨n,by omega,gp,gn,I,rfl⟩
  ·exact⟨l.length,by omega,hl,by omega,gC _,by rw[gV (by omega),List.take_length]⟩
 rw[gd];have gv:=Ma b off l.length c m gr h.le;have gl:=hid (fun i(hi:i<m)(M:(l[i]'(by omega)).kind=5)=>CG (l.take m) i (by rw[qL];omega) (by rw[List.getElem_take];exact M));have gm:=hid (show(l.take m).any (fun t=>t.kind==5)=false->dl (l.take m)=⟨(Lib.join (((l.take m).map (·.text)).map (·.data.toList)) ((⟨#[32]⟩:BA):ByteArray).data.toList).toArray⟩by
  intro I;cases ht:l.take m with
  |nil=>have:=jM List.length ht;rw[qL,qd]at this;omega
  |cons t r=>exact CH t r (by rw[<-ht];exact I))
 have g3:=hid (Ek ((l.take m).map (·.text)) (by intro t ht;obtain⟨x,I,rfl⟩:=List.mem_map.1 ht;exact U x (List.mem_of_mem_take I)) (by rw[jR,qL];omega));have g2:=hid (show((l.take m).map (·.text)).length=m by rw[jR,qL];omega);clear h gd U;(go_enter func224,ntmps224);go_wp2_with fail;clear hm gv gw;go_loopg [4,14] m (fun gg u4 u14 wr=>∃i:Nat,i<=m/\m-i<=gg/\u14=.int .i64 (i:Int)/\CI w.heap.size wr u4 ((l.take i).map (·.text))/\(l.take i).any (fun t=>t.kind==5)=false/\Below w w wr)
 case atStart=>exact⟨0,gQ _,by omega,rfl,CI.nil _ _,rfl,gH _ _⟩
 case round=>
  obtain⟨i,hi,g6,rfl,hO,J,hB⟩:=hrel;have HO:=hid hO;have D:=hid J;clear hO J;by_cases gs:i<m
  ·(have ge:(i:Int)<(m:Int):=by omega);(have h0:(0:Int)<=(i:Int):=by omega);(have N:i<l.length:=by omega);obtain⟨t0,t1,t2⟩:=(HT.out.below hB).tok i N;have gy:=hid (show(l.take (i+1)).map (·.text)=(l.take i).map (·.text)++[l[i].text]by rw[gU N,kS];rfl);have yk:=hid (show(l.take (i+1)).any (fun t=>t.kind==5)=((l.take i).any (fun t=>t.kind==5)||(l[i].kind==5))by rw[gU N,List.any_append];simp);have HS:=hid (gl.out i gs);generalize l[i]=t at *;(have gt:((l.take i).map (·.text)).length<=1000000:=by rw[jR,qL];omega);generalize(l.take i).map (·.text)=xs at *;have O:=hB.alloc hB.size (.cells #[t.kind,t.text,t.pos] 63);have g1:Hid (CI w.heap.size (wr.alloc (.cells #[t.kind,t.text,t.pos] 63)) u4 xs):=hid (qZ HO.out _);by_cases M:t.kind=5
   ·have HR:=hid (HS.out M);(have gh:(t.kind==5)=true:=by simp[M]);clear M HS;go_wp2_with fail;go_ret;exact⟨by rw[HR.out];rfl,O⟩
   ·(have gh:(t.kind==5)=false:=by simp[M]);have gz:=hid (show(l.take (i+1)).any (fun t=>t.kind==5)=false by rw[yk.out,D.out,gh];rfl);have ga:=O.size;clear M HS yk D;go_wp2_with (at_builtin;refine Be rfl (.tmp 21) (.tmp 24) rfl w.heap.size _ _ _ _ rfl _ rfl (by simp) g1.out ga gt ?_;intro v3 w3 hO3 hB3);have g0:=hid hO3;clear hO3;go_roundg (m-(i+1))
    case measure=>omega
    case rel=>exact⟨i+1,by omega,by omega,by go_num,by rw[gy.out];exact g0.out,gz.out,O.trans hB3⟩
  ·(have ge:¬ (i:Int)<(m:Int):=by omega);(have gu:i=m:=by omega);subst gu;have HR:=hid (gm.out D.out);clear D gm gl;have HX:=g2.out;generalize(l.take i).map (·.text)=xs at *;obtain⟨gb,cp,rfl,g7,gi⟩:=qM HO.out (by omega);have gj:xs.length<=cp:=by
    rcases HO.out.2 with⟨e,_⟩|⟨g',cap',cur',e,_,_,hc,_⟩
    ·cases e
    ·injection e with _ _ e;omega
   have HJ:=hid (Any.strings_Join Tryz.laysJoin Tryz.joinX gb 0 cp xs ⟨#[32]⟩ wr (fun j x I=>by have hj:j<xs.length:=(List.getElem?_eq_some_iff.1 I).1;rw[kR,qT HO.out j (by omega),List.getElem?_map,I];rfl) gi (by omega) gj g3.out);clear HX;go_wp2_with fail;change Calls _ 225 _ _ _;refine HJ.out.mono ?_;rintro e w5⟨rfl,gx⟩;go_wp2_with fail;go_ret;exact⟨by rw[HR.out];rfl,au hB gx⟩
theorem Pp(b off q c k:Nat)(toks:List ef)(D:toks.length=q)(N:k<=q)(M:q<=c):∃off',(∀W:World,(Instr.slice 50 (.slice (some ⟨b,off,none⟩) q c) (some (.int .i64 (k:Int))) none none).run prog W=.ok (.slice (some ⟨b,off',none⟩) (q-k) (c-k)) W) /\
  ∀w:World,(∀(j:Nat)(u:Value),(toks.flatMap nB)[j]? = some u->w.cell? ⟨b,off+j,none⟩=some u)->∀(j:Nat)(u:Value),((toks.drop k).flatMap nB)[j]? = some u->w.cell? ⟨b,off'+j,none⟩=some u:=by
 refine⟨if c=k then off else off+k*3,fun W=>?_,fun w h j u hu=>?_⟩
 ·rw[run_slice_l (P:=prog) W 50 (some ⟨b,off,none⟩) q c L8 .i64 (k:Int) (by omega) (by omega),L9];simp only[Result.andThen,sliced,Int.toNat_natCast,qf,oX];split<;>rfl
 ·by_cases J:c=k
  ·have:toks.drop k=[]:=List.drop_eq_nil_of_le (by omega);rw[this]at hu;simp at hu
  ·rw[gB J];(have e:toks.flatMap nB=(toks.take k).flatMap nB++(toks.drop k).flatMap nB:=by rw[<-kI,qN]);(have I:((toks.take k).flatMap nB).length=k*3:=by rw[oW fL,qL];congr 1;omega);have:=h (k*3+j) u (by rw[e,List.getElem?_append_right (by omega),I,Nat.add_sub_cancel_left];exact hu)
   rwa [<-Nat.add_assoc]at this
def Sz(E:cw)(s:St)(w:World)(r:Option (ByteArray×St))(e:Ending)(w':World):Prop:=
 match r with
 |some (x,s')=>e=.returned (.tuple #[.string x,.bool true])/\aA E s' w w'
 |none=>e=.returned (.tuple #[.string ⟨#[]⟩,.bool false])/\aA E s w w'
def uY(E:cw):Prop:=∀t∈E.c.toks,t.text.size<=1000000000
theorem CJ(c:Cx)(s:St)(D:aP c s ⟨#[114,97,110,103,101]⟩=false)(h:(c.toks.drop s.at_).length<=2\/((c.toks.drop s.at_).getD 0 ⟨0,⟨#[]⟩,0⟩).kind≠1):bS c s=none:=by
 unfold bS;rw[D];simp only[gW,jW];split
 ·rename_i a b d r hl;rw[hl]at h;rcases h with h|h
  ·simp at h
  ·(have h:a.kind≠1:=by simpa using h);rw[gB (by simp[h]),gB (by simp[h])]
 ·rfl
theorem yE(c:Cx)(s:St)(D:aP c s ⟨#[114,97,110,103,101]⟩=false){a b d:ef}{r:List ef}(I:c.toks.drop s.at_=a::b::d::r)(J:a.kind=1):
  bS c s=if a.text≠(⟨#[95]⟩:BA)/\dl ((a::b::d::r).take 3)=a.text++(⟨#[32,58,61,32,114,97,110,103,101]⟩:BA)then some (a.text,{ s with at_:=s.at_+3 })
   else if d.kind=1/\d.text≠(⟨#[95]⟩:BA)/\dl ((a::b::d::r).take 5)=a.text++(⟨#[32,44,32]⟩:BA)++d.text++(⟨#[32,58,61,32,114,97,110,103,101]⟩:BA)then some (a.text++(⟨#[44]⟩:BA)++d.text,{ s with at_:=s.at_+5 })else none:=by unfold bS;rw[D,I];simp only[gW,jW,J,true_and];rfl
end
end Go.Proofs.YteialcjaiocjdaaGreatDoor
