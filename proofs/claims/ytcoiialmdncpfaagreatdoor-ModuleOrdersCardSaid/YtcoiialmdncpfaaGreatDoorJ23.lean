/-
  Parts of the proof: Tright Ghere Oascii Otspec Otsm Rlitk. By an AI agent.
-/
import Derived.Test.YtcoiialmdncpfaaGreatDoorJ20
import Derived.Test.YtcoiialmdncpfaaGreatDoorJ08
import Derived.Test.YtcoiialmdncpfaaGreatDoorJ00
import Derived.Test.YtcoiialmdncpfaaGreatDoorJ21
import Derived.Test.YtcoiialmdncpfaaGreatDoorJ11
import Derived.Test.YtcoiialmdncpfaaGreatDoorJ22
import Derived.Test.YtcoiialmdncpfaaGreatDoorJ18
import Derived.Deep.CutBlock
import Derived.Shelf.Strings.SlTrimAscii
open Go.Proofs.Tryz
set_option maxRecDepth 100000
set_option maxHeartbeats 8000000
namespace Go.Proofs.YtcoiialmdncpfaaGreatDoor
section
open Go.RowKit Go.Lib Go.Proofs
attribute [local go_sem ↓] Go.wp_at_zero Go.wp_at_succ
theorem xd:type_of% @Go.Lib.setCells_size:=@Go.Lib.setCells_size
theorem Gm(t:TypeId)(w:World):(Instr.makeMap t none).run prog w=.ok (.map (some w.heap.size)) (w.alloc (.map #[] 0)):=rfl
theorem Lj{α:Type}(a:Array α)(x y:α):(a.push x).setIfInBounds a.size y=a.push y:=by rw[Array.push_eq_append,Array.push_eq_append,<-Array.toList_inj];simp[Array.toList_setIfInBounds]
theorem Lk(e:Bool)(k:ByteArray)(w:World):(Instr.checkKey e 10000 9 (.string k)).run prog w=.ok () w:=by show(Instr.checkKey e (9999+1) 9 (.string k)).run prog w=.ok () w;rw[Instr.checkKey];simp only[Sem.run_bind,qF underlying9,xb,xp]
theorem d4(w:World)(es:Array MapEntry)(clock:Nat)(key:ByteArray)(v:Value)(I:Instr.findNow .string (.string key) es.toList 0=some none):
  (Instr.mapUpdate 198 (.map (some w.heap.size)) (.string key) v).run prog (w.alloc (.map es clock))=.ok () (w.alloc (.map (es.push ⟨.string key,v,clock⟩) (clock+1))):=by have hb:(w.alloc (.map es clock)).heap[w.heap.size]? = some (.map es clock):=kJ w _;(have J:(getObj w.heap.size).run prog (w.alloc (.map es clock))=.ok (.map es clock) (w.alloc (.map es clock)):=by rw[getObj,Sem.run,hb];rfl);(have D:(setObj w.heap.size (.map (es.push ⟨.string key,v,clock⟩) (clock+1))).run prog (w.alloc (.map es clock))=.ok () (w.alloc (.map (es.push ⟨.string key,v,clock⟩) (clock+1))):=by rw[setObj,Sem.run,hb];exact qD (fun h=>Result.ok () { w with heap:=h }) (Lj w.heap _ _));unfold Instr.mapUpdate;simp only[qF underlying198,Sem.run_bind,xb,J,Lk,qF underlying9,Instr.findKey,I,xp,D]
def nx:Array MapEntry:=#[⟨.string ⟨#[102,105,108,101]⟩,.func (.func 186) #[] #[],0⟩,⟨.string ⟨#[100,101,99,108,97,114,97,116,105,111,110]⟩,.func (.func 189) #[] #[],1⟩,⟨.string ⟨#[116,121,112,101]⟩,.func (.func 190) #[] #[],2⟩,
 ⟨.string ⟨#[101,120,112,114,101,115,115,105,111,110]⟩,.func (.func 191) #[] #[],3⟩,⟨.string ⟨#[115,116,97,116,101,109,101,110,116]⟩,.func (.func 192) #[] #[],4⟩,⟨.string ⟨#[115,105,103,110,97,116,117,114,101]⟩,.func (.func 193) #[] #[],5⟩]
theorem Gn(w:World):Calls prog 136 #[] w fun e w'=>e=.returned (.map (some w.heap.size))/\w'=w.alloc (.map nx 6):=by have D:=Gm;have q:=d4 w #[] 0 ⟨#[102,105,108,101]⟩ (.func (.func 186) #[] #[]) rfl;have h:=d4 w #[⟨.string ⟨#[102,105,108,101]⟩,.func (.func 186) #[] #[],0⟩] 1 ⟨#[100,101,99,108,97,114,97,116,105,111,110]⟩ (.func (.func 189) #[] #[]) rfl;have O:=d4 w #[⟨.string ⟨#[102,105,108,101]⟩,.func (.func 186) #[] #[],0⟩,⟨.string ⟨#[100,101,99,108,97,114,97,116,105,111,110]⟩,.func (.func 189) #[] #[],1⟩] 2 ⟨#[116,121,112,101]⟩ (.func (.func 190) #[] #[]) rfl;have M:=d4 w #[⟨.string ⟨#[102,105,108,101]⟩,.func (.func 186) #[] #[],0⟩,⟨.string ⟨#[100,101,99,108,97,114,97,116,105,111,110]⟩,.func (.func 189) #[] #[],1⟩,⟨.string ⟨#[116,121,112,101]⟩,.func (.func 190) #[] #[],2⟩] 3 ⟨#[101,120,112,114,101,115,115,105,111,110]⟩ (.func (.func 191) #[] #[]) rfl;have J:=d4 w #[⟨.string ⟨#[102,105,108,101]⟩,.func (.func 186) #[] #[],0⟩,⟨.string ⟨#[100,101,99,108,97,114,97,116,105,111,110]⟩,.func (.func 189) #[] #[],1⟩,⟨.string ⟨#[116,121,112,101]⟩,.func (.func 190) #[] #[],2⟩,⟨.string ⟨#[101,120,112,114,101,115,115,105,111,110]⟩,.func (.func 191) #[] #[],3⟩] 4 ⟨#[115,116,97,116,101,109,101,110,116]⟩ (.func (.func 192) #[] #[]) rfl;have I:=d4 w #[⟨.string ⟨#[102,105,108,101]⟩,.func (.func 186) #[] #[],0⟩,⟨.string ⟨#[100,101,99,108,97,114,97,116,105,111,110]⟩,.func (.func 189) #[] #[],1⟩,⟨.string ⟨#[116,121,112,101]⟩,.func (.func 190) #[] #[],2⟩,⟨.string ⟨#[101,120,112,114,101,115,115,105,111,110]⟩,.func (.func 191) #[] #[],3⟩,⟨.string ⟨#[115,116,97,116,101,109,101,110,116]⟩,.func (.func 192) #[] #[],4⟩] 5 ⟨#[115,105,103,110,97,116,117,114,101]⟩ (.func (.func 193) #[] #[]) rfl;(go_enter func136,ntmps136);go_wp2_with fail;go_ret;exact⟨rfl,rfl⟩
theorem Ll(w:World)(b:Nat)(key:ByteArray)(v:Value)(i:Nat)(hb:w.heap[b]? = some (.map nx 6))(D:Instr.findNow .string (.string key) nx.toList 0=some (some (i,v))):
  (Instr.lookup 198 (.map (some b)) (.string key) true).run prog w=.ok (.tuple #[v,.bool true]) w:=by(have I:(getObj b).run prog w=.ok (.map nx 6) w:=by rw[getObj,Sem.run,hb];rfl);unfold Instr.lookup;simp only[qF underlying198,Sem.run_bind,xb,I,Lk,qF underlying9,Instr.findKey,D,xp,kS]
theorem Lm(a:Array Value)(w:World):(callFunc 189 a).run prog w=.ok (.enter 189 a) w:=by kernel_rfl
theorem Ln(a:Array Value)(w:World):(callFunc 186 a).run prog w=.ok (.enter 186 a) w:=by kernel_rfl
theorem Nq(g:Nat)(F:eZ)(hF:pQ g F):eT g (mE F) 189:=by
 cases g with
 |zero=>exact fun _ _ _ _ _ h=>h.elim
 |succ d=>exact OF d F hF.pred
theorem ON(g:Nat)(F:eZ)(hF:pQ g F):eT (g+1) (uw F) 186:=by
 intro w v n hT hv hd;have M:=hv;obtain⟨A,cp,rfl,hC⟩:=hv.toC;have O:=(cH w #[n.kind,n.text,.slice A n.kids.length cp,n.pos]).1;have b1:=(cH w #[n.kind,n.text,.slice A n.kids.length cp,n.pos]).2;have HI:=hid (fun w'(hb:Below (w.alloc (.cells #[n.kind,n.text,.slice A n.kids.length cp,n.pos] 41)).heap.size (w.alloc (.cells #[n.kind,n.text,.slice A n.kids.length cp,n.pos] 41)) w')=>fO g (mE F) ⟨189,#[]⟩ A cp n.kids _ ((M.below O).below hb).kidsV hd.2 hd.1.1 ((Nq g F hF).so Lm _ ((hT.below O).below hb)));(have z:uw F n=((n.kind==1)&&(br n.text&&n.kids.all (mE F))):=by unfold uw;rw[fN]);rw[z];clear z M hv hC hT hF hd;generalize n.kids.all (mE F)=q at *;generalize n.kind=k at *;cases h1:(k==1)with
 |false=>(go_enter func186,ntmps186);go_wp2_with fail;go_ret;exact⟨rfl,O⟩
 |true=>
  rw[kI]at h1;subst h1;cases y:br n.text with
  |false=>(go_enter func186,ntmps186);go_wp2_with fail;refine(ss _ _).mono ?_;rw[y];rintro e w1⟨rfl,D⟩;have I:=aE O D;clear D;go_wp2_with fail;go_ret;exact⟨rfl,I⟩
  |true=>(go_enter func186,ntmps186);go_wp2_with fail;refine(ss _ _).mono ?_;rw[y];rintro e w1⟨rfl,D⟩;have I:=aE O D;have x:=hid (HI.out _ D);obtain⟨x0,x1,x2,x3,_,_,_,_⟩:=ah (b1.below D (by simp));clear D HI;go_wp2_with fail;refine x.out.mono ?_;rintro e w2⟨rfl,J⟩;have h:=aE I J;clear J;go_wp2_with fail;go_ret;exact⟨rfl,h⟩
theorem El(v:Value)(n:Nd)(w:World)(I:dy w v n)(D:tQ 101 n):
 Calls prog 137 #[v] w fun e w'=>e=.returned (.int .i64 (mf n:Int))/\Below w w w':=callsIn_wide.1 (Gl v n w I D)
theorem Gp(v:Value)(n:Nd)(w:World)(I:dy w v n)(D:tQ 100 n)(J:(bi 100 n).length<=1000000000):
 Calls prog 138 #[v] w fun e w'=>e=.returned (.int .i64 ((bi 100 n).length:Int))/\Below w w w':=callsIn_wide.1 (Lh v n w I D J)
theorem tQ.pred:∀{g:Nat}{n:Nd},tQ (g+1) n->tQ g n
 |0,_,_=>trivial
 |_+1,_,h=>⟨h.1,fun k hk=>tQ.pred (h.2 k hk)⟩
theorem Be(n:Nd):cB n=(decide ((mf n:Int)<=100)&&(decide (((bi 100 n).length:Int)<=65536)&&uw (o4 100) n)):=by(have I:decide ((mf n:Int)<=100)=decide (mf n<=100):=by rw[vO];omega);(have D:decide (((bi 100 n).length:Int)<=65536)=decide ((bi 100 n).length<=65536):=by rw[vO];omega);rw[I,D];unfold cB ER;generalize uw (o4 100) n=q;rfl
theorem Ac(v:Value)(n:Nd)(w:World)(hT:bQ w)(y:dy w v n)(hw:tQ 101 n)(hc:(bi 100 n).length<=1000000000):
  Calls prog 88 #[v,.string ⟨#[102,105,108,101]⟩] w fun e w'=>e=.returned (.bool (cB n))/\Below w w w':=by
 have M:=y;obtain⟨A,cp,rfl,hC⟩:=y.toC;have x:=((gC w.heap.size w).alloc (gA _) (.cells #[n.kind,n.text,.slice A n.kids.length cp,n.pos] 41)).alloc (by simp) (.map nx 6);have b1:aa ((w.alloc (.cells #[n.kind,n.text,.slice A n.kids.length cp,n.pos] 41)).alloc (.map nx 6)) w.heap.size 41 #[n.kind,n.text,.slice A n.kids.length cp,n.pos]:=(aa.new w _ _).alloc _;have ge:=Ll ((w.alloc (.cells #[n.kind,n.text,.slice A n.kids.length cp,n.pos] 41)).alloc (.map nx 6)) (w.heap.size+1) ⟨#[102,105,108,101]⟩ (.func (.func 186) #[] #[]) 0 (nU (by simp) _) rfl;have HV:=hid (M.below x);have HT:=hid (hT.below x);have HW:=hid hw;have HC:=hid hc;have he:=Ln;clear M y hC hT hw hc;(go_enter func88,ntmps88);go_wp2_with fail;refine(Gn _).mono ?_;rintro e w1⟨rfl,rfl⟩;go_wp2_with fail;refine(El _ n _ HV.out HW.out).mono ?_;rintro e w1⟨rfl,I⟩;have HE:=hid (Be n);have h:=aE x I;have c1:=b1.below I (by simp;omega);obtain⟨x0,x1,x2,x3,_,_,_,_⟩:=ah c1;have q:=hid (HV.out.below I);have gd:=hid (HT.out.below I);clear I b1 x;cases hd:decide ((mf n:Int)<=100)with
 |false=>go_wp2_with fail;go_ret;exact⟨by rw[HE.out,hd];rfl,h⟩
 |true=>
  have HD:=hid (m8 (HW.out.pred) (by have:=of_decide_eq_true hd;omega));go_wp2_with fail;refine(Gp _ n _ q.out HW.out.pred HC.out).mono ?_;rintro e w2⟨rfl,D⟩;have O:=aE h D;have c2:=c1.bl D;obtain⟨y0,y1,y2,y3,_,_,_,_⟩:=ah c2;have ga:=hid (q.out.below D);have gb:=hid (gd.out.below D);clear D c1 c2 x0 x1 x2 x3;cases hs:decide (((bi 100 n).length:Int)<=65536)with
  |false=>go_wp2_with fail;go_ret;exact⟨by rw[HE.out,hd,hs];rfl,O⟩
  |true=>go_wp2_with fail;refine(ON 100 (o4 100) (O3 100) _ _ n gb.out ga.out HD.out.succ).mono ?_;rintro e w3⟨rfl,J⟩;have z:=aE O J;clear J;go_wp2_with fail;go_ret;exact⟨by rw[HE.out,hd,hs];rfl,z⟩
def Pm(w:World)(l:Us)(e:Ending)(w':World):Prop:=(∃v,e=.returned v/\dM w.heap.size w' v l)/\Below w w w'
structure Db(w:World)(b off:Nat)(z:Nd)(A1:Option Addr)(c1:Nat):Prop where
 lt:b<w.heap.size
 c0:w.cell? ⟨b,off,none⟩=some (.int .i64 z.kind)
 c2:w.cell? ⟨b,off+2,none⟩=some (.slice A1 z.kids.length c1)
 c3:w.cell? ⟨b,off+3,none⟩=some (.int .i64 z.pos)
 nv:dy w (.agg #[z.kind,z.text,.slice A1 z.kids.length c1,z.pos]) z
theorem Db.below{w w':World}{b off:Nat}{z:Nd}{A1:Option Addr}{c1:Nat}(h:Db w b off z A1 c1)(hb:Below w w w'):Db w' b off z A1 c1:=
 have e:=hb.block b h.lt
 ⟨jY h.lt hb.size,(jM (a:=⟨b,off,none⟩) e).trans h.c0,(jM (a:=⟨b,off+2,none⟩) e).trans h.c2,(jM (a:=⟨b,off+3,none⟩) e).trans h.c3,h.nv.below hb⟩
theorem aq.kid0{w:World}{k t a:Value}{A:Option Addr}{m c:Nat}{nk:Int}{nt:ByteArray}{z:Nd}{zs:List Nd}{np:Int}(h:dy w (.agg #[k,t,.slice A m c,a]) (.mk nk nt (z::zs) np)):
  ∃b off D c1,A=some ⟨b,off,none⟩/\Db w b off z D c1:=by obtain⟨b,off,D,c1,e,_,q,M,x,J,I,O⟩:=(aq.kidsV h).kid 0 (by simp);simp only[Nd.kids_mk,vB,vC,kF]at M J I O;exact⟨b,off,D,c1,e,q,M,J,I,O⟩
theorem aq.kid1{w:World}{k t a:Value}{b off:Nat}{m c:Nat}{nk:Int}{nt:ByteArray}{z z1:Nd}{zs:List Nd}{np:Int}(h:dy w (.agg #[k,t,.slice (some ⟨b,off,none⟩) m c,a]) (.mk nk nt (z::z1::zs) np)):
  ∃D c1,Db w b (off+4) z1 D c1:=by obtain⟨b',off',D,c1,e,_,q,M,x,J,I,O⟩:=(aq.kidsV h).kid 1 (by simp);injection e with e;injection e with e1 e2;subst e1 e2;simp only[Nd.kids_mk,List.getElem_cons_succ,vB,xr]at M J I O;exact⟨D,c1,q,M,J,I,O⟩
set_option linter.unusedSimpArgs false in
theorem LQ:∀(g:Nat)(v:Value)(n:Nd)(w:World),dy w v n->ie g n->OQ g n->(bi g n).length<=400000->Calls prog 96 #[v] w (Pm w (eP g n)):=by
 intro g;induction g with
 |zero=>exact fun _ _ _ _ h=>h.elim
 | succ g ih=>
  intro v n w hv hd hnd hN;have HV:=hid hv;have HD:=hid hd;have gp:=hid hnd;have HI:=hid ih;have HN:=hid hN;have hr:=hd.1.1;obtain⟨A,cp,rfl,hC⟩:=hv.toC;clear hv hC hd hnd ih hN;have O:=(gC w.heap.size w).alloc (gA _) (.cells #[n.kind,n.text,.slice A n.kids.length cp,n.pos] 41);have b1:aa (w.alloc (.cells #[n.kind,n.text,.slice A n.kids.length cp,n.pos] 41)) w.heap.size 41 #[n.kind,n.text,.slice A n.kids.length cp,n.pos]:=aa.new w _ _;have hy:=hid (HV.out.below O);(go_enter func96,ntmps96);(go_upto_block 0 with fail);go_cut [3] (fun s3 wx=>dM (w.heap.size+1) wx s3 (cg n)/\Below w w wx/\aa wx w.heap.size 41 #[n.kind,n.text,.slice A n.kids.length cp,n.pos])
  case first=>
   clear HI HN HD hr;obtain⟨nk,nt,nl,np⟩:=n;simp only[Nd.kids_mk,Nd.kind_mk,Nd.text_mk,Nd.pos_mk]at *;by_cases h2:nk=2
   ·subst h2;rcases nl with _|⟨⟨zk,zt,zl,zp⟩,zs⟩
    ·exact absurd (gp.out.1.1 (.inl rfl)) (by simp)
    obtain⟨b,off,A1,c1,rfl,D⟩:=HV.out.kid0;(have g7:(0:Int)<((zs.length+1:Nat):Int):=by omega);simp only[gI]at *;rcases zl with _|⟨⟨yk,yt,yl,yp⟩,ys⟩
    ·have D:=D.below O;have HR:Go.RowKit.Hid (cg (.mk 2 nt (.mk zk zt [] zp::zs) np)=[]):=hid (by simp[cg,oz,mu,cj]);generalize cg (.mk 2 nt (.mk zk zt [] zp::zs) np)=R at *;obtain⟨-,k0,k2,k3,-⟩:=D;simp only[gI,jT,Nd.kind_mk,Nd.kids_mk,Nd.pos_mk]at k0 k2 k3;generalize zs.length+1=q at *;go_wp2_with fail;go_meet
     case rel=>rw[HR.out];exact⟨(dM.nil _ _),O,b1⟩
    ·obtain⟨bk,g0,A3,c3,rfl,gd⟩:=D.nv.kid0;have gd:=gd.below O;(have g9:(0:Int)<((ys.length+1:Nat):Int):=by omega);(have g8:0<ys.length+1:=by omega);have D:=D.below O;have HR:Go.RowKit.Hid (cg (.mk 2 nt (.mk zk zt (.mk yk yt yl yp::ys) zp::zs) np)=[(18,yp)]):=hid (by simp[cg,oz,mu,cj]);generalize cg (.mk 2 nt (.mk zk zt (.mk yk yt yl yp::ys) zp::zs) np)=R at *;obtain⟨-,k0,k2,k3,-⟩:=D;obtain⟨-,-,-,y3,-⟩:=gd;simp only[gI,jT,Nd.kind_mk,Nd.kids_mk,Nd.pos_mk]at k0 k2 k3 y3;generalize ys.length+1=qy at *;generalize zs.length+1=q at *;go_wp2_with (first|(at_builtin;refine ci rfl (.tmp 21) (.tmp 27) rfl (w.heap.size+1) _ _ [] 18 yp rfl _ rfl (by simp) (dM.nil _ _) (by simp) (by simp) ?_;intro g1 q1 w1 y I;have M:=O.trans (I.mono (jC _));have bb1:=b1.below I (jO _);have ga:=hid y;have gm:=gM (show w.heap.size+1<=_ by simp) I.size;obtain⟨x0,x1,x2,x3,-,-,-,-⟩:=ah bb1;clear y I));go_meet
     case rel=>rw[HR.out];exact⟨ga.out,M,bb1⟩
   ·by_cases h3:nk=3
    ·subst h3;rcases nl with _|⟨⟨zk,zt,zl,zp⟩,zs⟩
     ·exact absurd (gp.out.1.2 (.inl rfl)) (by simp)
     rcases zs with _|⟨⟨J,gg,gh,z⟩,zs⟩
     ·exact absurd (gp.out.1.2 (.inl rfl)) (by simp)
     obtain⟨b,off,A1,c1,rfl,D⟩:=HV.out.kid0;obtain⟨A2,c2,ge⟩:=HV.out.kid1;(have hq:(1:Int)<((zs.length+1+1:Nat):Int):=by omega);(have g7:(0:Int)<((zs.length+1+1:Nat):Int):=by omega);simp only[gI]at *;rcases zl with _|⟨⟨yk,yt,yl,yp⟩,ys⟩
     ·have D:=D.below O;by_cases hi:J=14
      ·have HR:Go.RowKit.Hid (cg (.mk 3 nt (.mk zk zt [] zp::.mk J gg gh z::zs) np)=[(18,z)]):=hid (by simp[cg,oz,mu,cj,hi]);generalize cg (.mk 3 nt (.mk zk zt [] zp::.mk J gg gh z::zs) np)=R at *;subst hi;obtain⟨-,k0,k2,k3,-⟩:=D;have gi:=ge.below O;obtain⟨-,j0,j2,j3,-⟩:=gi;simp only[gI,jT,Nd.kind_mk,Nd.kids_mk,Nd.pos_mk]at k0 k2 k3 j0 j2 j3;generalize zs.length+1+1=q at *;go_wp2_with (first|(at_builtin;refine ci rfl (.tmp 49) (.tmp 56) rfl (w.heap.size+1) _ _ [] 18 z rfl _ rfl (by simp) (dM.nil _ _) (by simp) (by simp) ?_;intro g1 q1 w1 y I;have M:=O.trans (I.mono (jC _));have bb1:=b1.below I (jO _);have ga:=hid y;have gm:=gM (show w.heap.size+1<=_ by simp) I.size;obtain⟨x0,x1,x2,x3,-,-,-,-⟩:=ah bb1;obtain⟨-,j0,j2,j3,-⟩:=ge.below M;simp only[Nd.kind_mk,Nd.kids_mk,Nd.pos_mk]at j0 j2 j3;clear y I));go_meet
       case rel=>rw[HR.out];exact⟨ga.out,M,bb1⟩
      ·have HR:Go.RowKit.Hid (cg (.mk 3 nt (.mk zk zt [] zp::.mk J gg gh z::zs) np)=[]):=hid (by simp[cg,oz,mu,cj,hi]);generalize cg (.mk 3 nt (.mk zk zt [] zp::.mk J gg gh z::zs) np)=R at *;(have hu:(J==14)=false:=by simp[hi]);clear hi;obtain⟨-,k0,k2,k3,-⟩:=D;have gi:=ge.below O;obtain⟨-,j0,j2,j3,-⟩:=gi;simp only[gI,jT,Nd.kind_mk,Nd.kids_mk,Nd.pos_mk]at k0 k2 k3 j0 j2 j3;generalize zs.length+1+1=q at *;go_wp2_with fail;go_meet
       case rel=>rw[HR.out];exact⟨(dM.nil _ _),O,b1⟩
     ·obtain⟨bk,g0,A3,c3,rfl,gd⟩:=D.nv.kid0;have gd:=gd.below O;(have g9:(0:Int)<((ys.length+1:Nat):Int):=by omega);(have g8:0<ys.length+1:=by omega);have D:=D.below O;by_cases hi:J=14
      ·have HR:Go.RowKit.Hid (cg (.mk 3 nt (.mk zk zt (.mk yk yt yl yp::ys) zp::.mk J gg gh z::zs) np)=[(18,yp),(18,z)]):=hid (by simp[cg,oz,mu,cj,hi]);generalize cg (.mk 3 nt (.mk zk zt (.mk yk yt yl yp::ys) zp::.mk J gg gh z::zs) np)=R at *;subst hi;obtain⟨-,k0,k2,k3,-⟩:=D;obtain⟨-,-,-,y3,-⟩:=gd;have gi:=ge.below O;obtain⟨-,j0,j2,j3,-⟩:=gi;simp only[gI,jT,Nd.kind_mk,Nd.kids_mk,Nd.pos_mk]at k0 k2 k3 y3 j0 j2 j3;generalize ys.length+1=qy at *;generalize zs.length+1+1=q at *;go_wp2_with (first|(at_builtin;refine ci rfl (.tmp 21) (.tmp 27) rfl (w.heap.size+1) _ _ [] 18 yp rfl _ rfl (by simp) (dM.nil _ _) (by simp) (by simp) ?_;intro g1 q1 w1 y I;have M:=O.trans (I.mono (jC _));have bb1:=b1.below I (jO _);have ga:=hid y;have gm:=gM (show w.heap.size+1<=_ by simp) I.size;obtain⟨x0,x1,x2,x3,-,-,-,-⟩:=ah bb1;obtain⟨-,j0,j2,j3,-⟩:=ge.below M;simp only[Nd.kind_mk,Nd.kids_mk,Nd.pos_mk]at j0 j2 j3;clear y I)|(at_builtin;refine ci rfl (.tmp 49) (.tmp 56) rfl (w.heap.size+1) _ _ [(18,yp)] 18 z rfl _ rfl (by simp) ga.out gm (by simp) ?_;intro g2 q2 w2 hO2 gl;have gq:=M.trans (gl.mono (jC _));have bb2:=bb1.below gl (jO _);have gu:=hid hO2;have hn:=gM gm gl.size;obtain⟨x0,x1,x2,x3,-,-,-,-⟩:=ah bb2;obtain⟨-,j0,j2,j3,-⟩:=ge.below gq;simp only[Nd.kind_mk,Nd.kids_mk,Nd.pos_mk]at j0 j2 j3;clear hO2 gl));go_meet
       case rel=>rw[HR.out];exact⟨gu.out,gq,bb2⟩
      ·have HR:Go.RowKit.Hid (cg (.mk 3 nt (.mk zk zt (.mk yk yt yl yp::ys) zp::.mk J gg gh z::zs) np)=[(18,yp)]):=hid (by simp[cg,oz,mu,cj,hi]);generalize cg (.mk 3 nt (.mk zk zt (.mk yk yt yl yp::ys) zp::.mk J gg gh z::zs) np)=R at *;(have hu:(J==14)=false:=by simp[hi]);clear hi;obtain⟨-,k0,k2,k3,-⟩:=D;obtain⟨-,-,-,y3,-⟩:=gd;have gi:=ge.below O;obtain⟨-,j0,j2,j3,-⟩:=gi;simp only[gI,jT,Nd.kind_mk,Nd.kids_mk,Nd.pos_mk]at k0 k2 k3 y3 j0 j2 j3;generalize ys.length+1=qy at *;generalize zs.length+1+1=q at *;go_wp2_with (first|(at_builtin;refine ci rfl (.tmp 21) (.tmp 27) rfl (w.heap.size+1) _ _ [] 18 yp rfl _ rfl (by simp) (dM.nil _ _) (by simp) (by simp) ?_;intro g1 q1 w1 y I;have M:=O.trans (I.mono (jC _));have bb1:=b1.below I (jO _);have ga:=hid y;have gm:=gM (show w.heap.size+1<=_ by simp) I.size;obtain⟨x0,x1,x2,x3,-,-,-,-⟩:=ah bb1;obtain⟨-,j0,j2,j3,-⟩:=ge.below M;simp only[Nd.kind_mk,Nd.kids_mk,Nd.pos_mk]at j0 j2 j3;clear y I));go_meet
       case rel=>rw[HR.out];exact⟨ga.out,M,bb1⟩
    ·by_cases h4:nk=4
     ·subst h4;rcases nl with _|⟨⟨zk,zt,zl,zp⟩,zs⟩
      ·exact absurd (gp.out.1.1 (.inr rfl)) (by simp)
      obtain⟨b,off,A1,c1,rfl,D⟩:=HV.out.kid0;(have g7:(0:Int)<((zs.length+1:Nat):Int):=by omega);simp only[gI]at *;rcases zl with _|⟨⟨yk,yt,yl,yp⟩,ys⟩
      ·have D:=D.below O;have HR:Go.RowKit.Hid (cg (.mk 4 nt (.mk zk zt [] zp::zs) np)=[]):=hid (by simp[cg,oz,mu,cj]);generalize cg (.mk 4 nt (.mk zk zt [] zp::zs) np)=R at *;obtain⟨-,k0,k2,k3,-⟩:=D;simp only[gI,jT,Nd.kind_mk,Nd.kids_mk,Nd.pos_mk]at k0 k2 k3;generalize zs.length+1=q at *;go_wp2_with fail;go_meet
       case rel=>rw[HR.out];exact⟨(dM.nil _ _),O,b1⟩
      ·obtain⟨bk,g0,A3,c3,rfl,gd⟩:=D.nv.kid0;have gd:=gd.below O;(have g9:(0:Int)<((ys.length+1:Nat):Int):=by omega);(have g8:0<ys.length+1:=by omega);have D:=D.below O;have HR:Go.RowKit.Hid (cg (.mk 4 nt (.mk zk zt (.mk yk yt yl yp::ys) zp::zs) np)=[(18,yp),(24,np)]):=hid (by simp[cg,oz,mu,cj]);generalize cg (.mk 4 nt (.mk zk zt (.mk yk yt yl yp::ys) zp::zs) np)=R at *;obtain⟨-,k0,k2,k3,-⟩:=D;obtain⟨-,-,-,y3,-⟩:=gd;simp only[gI,jT,Nd.kind_mk,Nd.kids_mk,Nd.pos_mk]at k0 k2 k3 y3;generalize ys.length+1=qy at *;generalize zs.length+1=q at *;go_wp2_with (first|(at_builtin;refine ci rfl (.tmp 21) (.tmp 27) rfl (w.heap.size+1) _ _ [] 18 yp rfl _ rfl (by simp) (dM.nil _ _) (by simp) (by simp) ?_;intro g1 q1 w1 y I;have M:=O.trans (I.mono (jC _));have bb1:=b1.below I (jO _);have ga:=hid y;have gm:=gM (show w.heap.size+1<=_ by simp) I.size;obtain⟨x0,x1,x2,x3,-,-,-,-⟩:=ah bb1;clear y I)|(at_builtin;refine ci rfl (.tmp 32) (.tmp 36) rfl (w.heap.size+1) _ _ [(18,yp)] 24 np rfl _ rfl (by simp) ga.out gm (by simp) ?_;intro g2 q2 w2 hO2 gl;have gq:=M.trans (gl.mono (jC _));have bb2:=bb1.below gl (jO _);have gu:=hid hO2;have hn:=gM gm gl.size;obtain⟨x0,x1,x2,x3,-,-,-,-⟩:=ah bb2;clear hO2 gl));go_meet
       case rel=>rw[HR.out];exact⟨gu.out,gq,bb2⟩
     ·by_cases gt:nk=10
      ·have HR:Go.RowKit.Hid (cg (.mk nk nt nl np)=if 0<nl.length then[(18,np)]else[]):=hid (by unfold cg;simp[gt]);subst gt;generalize cg (.mk 10 nt nl np)=R at *;by_cases hl:0<nl.length
       ·have gj:=hid (HR.out.trans (gL hl));go_wp2_with (at_builtin;refine ci rfl (.tmp 64) (.tmp 68) rfl (w.heap.size+1) _ _ [] 18 np rfl _ rfl (by simp) (dM.nil _ _) (by simp) (by simp) ?_;intro g3 c3 w3 yk gb);go_meet
        case rel=>rw[gj.out];exact⟨yk,O.trans (gb.mono (jC _)),b1.below gb (jO _)⟩
       ·have gj:=hid (HR.out.trans (gE hl));go_wp2_with fail;go_meet
        case rel=>rw[gj.out];exact⟨dM.nil _ _,O,b1⟩
      ·by_cases gy:nk=22
       ·subst gy;rcases nl with _|⟨⟨zk,zt,zl,zp⟩,zs⟩
        ·exact absurd (gp.out.1.2 (.inr rfl)) (by simp)
        rcases zs with _|⟨⟨J,gg,gh,z⟩,zs⟩
        ·exact absurd (gp.out.1.2 (.inr rfl)) (by simp)
        obtain⟨b,off,A1,c1,rfl,D⟩:=HV.out.kid0;obtain⟨A2,c2,ge⟩:=HV.out.kid1;(have hq:(1:Int)<((zs.length+1+1:Nat):Int):=by omega);have ge:=ge.below O;(have gw:(2:Int)<((zs.length+1+1:Nat):Int)↔0<zs.length:=by omega);have HR:Go.RowKit.Hid (cg (.mk 22 nt (.mk zk zt zl zp::.mk J gg gh z::zs) np)=if 0<zs.length\/J=11\/J=12 then[(18,np)]else[]):=hid (by simp[cg,cj]);generalize cg (.mk 22 nt (.mk zk zt zl zp::.mk J gg gh z::zs) np)=R at *;simp only[gI]at *;obtain⟨-,j0,j2,j3,-⟩:=ge;simp only[Nd.kind_mk,Nd.kids_mk,Nd.pos_mk]at j0 j2 j3;by_cases hz:0<zs.length
        ·have gj:=hid (HR.out.trans (gL (.inl hz)));have hp:=gw.2 hz;(have ho:2<zs.length+1+1:=by omega);clear gw hz;clear HR;generalize zs.length+1+1=q at *;go_wp2_with (at_builtin;refine ci rfl (.tmp 92) (.tmp 96) rfl (w.heap.size+1) _ _ [] 18 np rfl _ rfl (by simp) (dM.nil _ _) (by simp) (by simp) ?_;intro g3 q3 w3 yk gb);go_meet
         case rel=>rw[gj.out];exact⟨yk,O.trans (gb.mono (jC _)),b1.below gb (jO _)⟩
        ·have hp:¬ (2:Int)<((zs.length+1+1:Nat):Int):=fun h=>hz (gw.1 h);(have ho:¬ 2<zs.length+1+1:=by omega);clear gw;by_cases gs:J=11
         ·subst gs;have gj:=hid (HR.out.trans (gL (.inr (.inl rfl))));clear hz;clear HR;generalize zs.length+1+1=q at *;go_wp2_with (at_builtin;refine ci rfl (.tmp 92) (.tmp 96) rfl (w.heap.size+1) _ _ [] 18 np rfl _ rfl (by simp) (dM.nil _ _) (by simp) (by simp) ?_;intro g3 q3 w3 yk gb);go_meet
          case rel=>rw[gj.out];exact⟨yk,O.trans (gb.mono (jC _)),b1.below gb (jO _)⟩
         ·by_cases gz:J=12
          ·subst gz;have gj:=hid (HR.out.trans (gL (.inr (.inr rfl))));clear hz gs;clear HR;generalize zs.length+1+1=q at *;go_wp2_with (at_builtin;refine ci rfl (.tmp 92) (.tmp 96) rfl (w.heap.size+1) _ _ [] 18 np rfl _ rfl (by simp) (dM.nil _ _) (by simp) (by simp) ?_;intro g3 q3 w3 yk gb);go_meet
           case rel=>rw[gj.out];exact⟨yk,O.trans (gb.mono (jC _)),b1.below gb (jO _)⟩
          ·have gj:=hid (HR.out.trans (gE (fun h=>h.elim hz (fun h=>h.elim gs gz))));(have jc:(J==11)=false:=by simp[gs]);(have jb:(J==12)=false:=by simp[gz]);clear hz gs gz;clear HR;generalize zs.length+1+1=q at *;go_wp2_with fail;go_meet
           case rel=>rw[gj.out];exact⟨dM.nil _ _,O,b1⟩
       ·have HR:Go.RowKit.Hid (cg (.mk nk nt nl np)=[]):=hid (by unfold cg;simp[h2,h3,h4,gt,gy]);generalize cg (.mk nk nt nl np)=R at *;(have e2:(nk==2)=false:=by simp[h2]);(have e3:(nk==3)=false:=by simp[h3]);(have e4:(nk==4)=false:=by simp[h4]);(have jd:(nk==10)=false:=by simp[gt]);(have ja:(nk==22)=false:=by simp[gy]);clear h2 h3 h4 gt gy;go_wp2_with fail;go_meet
        case rel=>rw[HR.out];exact⟨dM.nil _ _,O,b1⟩
  case rest=>
   obtain⟨y,I,c1⟩:=hcut;obtain⟨x0,x1,x2,x3,_,_,_,_⟩:=ah c1;have gv:=hid (y.less (jC _));clear y O b1 hy;have HT:=hid (show eP (g+1) n=cg n++n.kids.flatMap (eP g)from rfl);have h7:=hid (C5 n);generalize cg n=gn at *;go_wp2_with fail;go_loopg [3,6,101] n.kids.length (fun g1 u3 _ u101 wr=>∃i:Nat,i<=n.kids.length/\n.kids.length-i<=g1/\u101=.int .i64 (i:Int)/\dM w.heap.size wr u3 (gn++(n.kids.take i).flatMap (eP g))/\Below w w wr)
   case atStart=>exact⟨0,gT _,by omega,rfl,by simpa using gv.out,I⟩
   case round=>
    clear x0 x1 x2 x3 c1 gv;obtain⟨i,hi,hg,rfl,hO,O⟩:=hrel;have HO:=hid hO;clear hO;by_cases gx:i<n.kids.length
    ·(have ha:(i:Int)<(n.kids.length:Int):=by omega);(have h0:(0:Int)<=(i:Int):=by omega);obtain⟨b,off,A1,g5,rfl,-,h9,k0,k1,k2,k3,hf⟩:=(HV.out.below O).kidsV.kid i gx;have gr:=jF gx;have HM:=hid (And.intro (HD.out.2 _ gr) (gp.out.2 _ gr));have h1:=hid (show gn++(n.kids.take (i+1)).flatMap (eP g)=(gn++(n.kids.take i).flatMap (eP g))++eP g n.kids[i]by rw[kC gx,kO,qS];simp);(have hs:((n.kids.take i).flatMap (bi g)).length+(bi g n.kids[i]).length<=(n.kids.flatMap (bi g)).length:=by(conv=>rhs;rw[<-vZ (i+1) n.kids,kO,kC gx,kO]);simp);have he:=wL (eP g) (bi g) (n.kids.take i) fun k _=>mN g k;clear gr;generalize n.kids[i]=x at *;have hc:=mN g x;have hh:=HN.out;rw[bi,gI]at hh;have h8:=hid (show(gn++(n.kids.take i).flatMap (eP g)).length+(eP g x).length<=1000000 by have:=h7.out;rw[gJ];omega);have hj:=hid (O.alloc O.size (.cells #[x.kind,x.text,.slice A1 x.kids.length g5,x.pos] 41));have HC:=hid (HI.out _ x (wr.alloc (.cells #[x.kind,x.text,.slice A1 x.kids.length g5,x.pos] 41)) (hf.below ((gC _ wr).alloc (gA _) _)).wide HM.out.1 HM.out.2 (by omega));have gv:=hid (HO.out.below ((gC _ wr).alloc (gA _) (.cells #[x.kind,x.text,.slice A1 x.kids.length g5,x.pos] 41)));generalize gn++(n.kids.take i).flatMap (eP g)=acc at *;clear hf hs he hc hh HM HO O;go_wp2_with fail;refine HC.out.mono ?_;rintro e w2⟨⟨v2,rfl,g6⟩,g4⟩;have h6:=hid (gv.out.below g4);have hw:=hid g6;have hk:=hj.out.trans (g4.mono hj.out.size);clear g4 g6 HC gv k0 k1 k2 k3;have hm:=hk.size;go_wp2_with (at_builtin;refine Da rfl (.tmp 105) (.tmp 107) rfl w.heap.size _ _ _ _ _ _ rfl rfl h6.out hw.out hm h8.out ?_;intro v3 w3 yk gb);have h5:=hid yk;clear yk;go_roundg (n.kids.length-(i+1))
     case measure=>omega
     case rel=>exact⟨i+1,by omega,by omega,by go_num,by rw[h1.out];exact h5.out,hk.trans gb⟩
    ·(have ha:¬ (i:Int)<(n.kids.length:Int):=by omega);have ht:n.kids.take i=n.kids:=jU (by omega);rw[ht,<-HT.out]at HO;clear ht;go_wp2_with fail;go_ret;exact⟨⟨_,rfl,HO.out⟩,O⟩
end
section
open Go.Shelf Go.RowKit Go.Lib Go.Proofs
section
variable {P:Program} {ρ:Ren}
theorem AN(L:Lays.n227 P ρ)(ga:∀w,(zeroValue (ρ.t 116)).run P w=.ok (.agg (Array.replicate 256 (.bool false))) w)(I:(P.info? (ρ.t 116)).map (·.size)=some 256)(chars:ByteArray)(k:Nat)(y:UInt8)(w:World)(hs:chars.size<4294967281)
  (D:∀(j:Nat)b,j<k->chars.data.toList[j]? = some b->b.toNat<128)(q:chars.data.toList[k]? = some y)(gj:128<=y.toNat):
  Calls P (ρ.f 227) #[chars] w fun e w'=>e=.returned (.tuple #[.agg (Lib.setCells (chars.data.toList.take k)),.bool false])/\w'=w.alloc (.cells (Lib.setCells (chars.data.toList.take k)) (ρ.t 116)):=by
 have HA:Aside (∀(j:Nat)b,j<k->chars.data.toList[j]? = some b->b.toNat<128):=D;have HY:Aside (chars.data.toList[k]? = some y):=q;(have hk:k<chars.size:=by rw[Lib.size_eq];exact(List.getElem?_eq_some_iff.1 q).1);clear D q;have t3:=L.t3;have a3:=L.a3;have z3:=L.z3;have v3:=L.v3;have t4:=L.t4;have a4:=L.a4;have z4:=L.z4;have v4:=L.v4;have t5:=L.t5;have a5:=L.a5;have z5:=L.z5;have v5:=L.v5;have t9:=L.t9;have a9:=L.a9;have z9:=L.z9;have v9:=L.v9;have gi:=L.t116;(go_enter L.f227,Body.n227_ntmps ρ);go_wp2;rw[<-Lib.setCells_nil];go_loopg [4] k (fun g s4 wx=>∃i:Nat,i+g=k/\s4=.int .i64 i/\wx=w.alloc (.cells (Lib.setCells (chars.data.toList.take i)) (ρ.t 116)))
 case atStart=>exact⟨0,by omega,rfl,rfl⟩
 case round=>
  obtain⟨i,gl,rfl,rfl⟩:=hrel;cases gk with
  |zero=>(obtain rfl:i=k:=by omega);(have gg:(i:Int)<(chars.size:Int):=by omega);(have hx:chars[i]'hk=y:=by have h:=Lib.data_getElem? chars i hk;rw[HY.out]at h;exact(xn h).symm);(have M:(128:Int)<=(y.toNat:Int):=by omega);have gd:=run_loadVar_new (P:=P) w (ρ.t 116) (Lib.setCells (chars.data.toList.take i)) 256 (ρ.t 4) L.t116 (by rw[xd];exact I);have O:=xd (chars.data.toList.take i);have ge:=run_loadCellsFrom_new (P:=P) w (ρ.t 116) (Lib.setCells (chars.data.toList.take i)) 256 O;have gb:=run_storeCells_new (P:=P) w (ρ.t 116) (Lib.setCells (chars.data.toList.take i)) (Lib.setCells (chars.data.toList.take i)) (by rw[O];exact I) rfl (Lib.setCells_one _);go_wp2;simp only[L.a116,L.z116,Result.andThen,↓reduceIte,ge];rw[Oper.upon_value];go_wp2;simp only[L.z116,Result.andThen,↓reduceIte,gb];rw[Oper.upon_skip];go_wp2;(try simp only[Exit.inBlock,Exit.then]);refine jD (v:=.tuple #[.agg (Lib.setCells (chars.data.toList.take i)),.bool false]) ?_ rfl ⟨rfl,rfl⟩;rw[results_cell_tmp rfl];simp[asAddr,Result.andThen,gd]
  |succ g=>
   (have hi:i<chars.size:=by omega);(have gg:(i:Int)<(chars.size:Int):=by omega);obtain⟨x,hx⟩:∃x:UInt8,chars[i]'hi=x:=⟨_,rfl⟩;(have J:chars.data.toList[i]? = some x:=by rw[<-hx];exact Lib.data_getElem? chars i hi);(have M:¬ ((128:Int)<=(x.toNat:Int)):=by have:=HA.out i x (by omega) J;omega);(have z:(x.toNat:Int)<256:=by have:=HA.out i x (by omega) J;omega);have gh:=Lib.setCells_at (chars.data.toList.take i) x;have Hx:Aside (chars.data.toList[i]? = some x):=J;clear J;go_wp2;go_roundg g
   case measure=>omega
   case rel=>exact⟨i+1,by omega,by first|rfl|simp,by rw[List.take_add_one,Hx.out];simp only[Option.toList];rw[Lib.setCells_snoc]⟩
theorem B5(L:Lays.n161 P ρ)(M:∀w,(zeroValue (ρ.t 116)).run P w=.ok (.agg (Array.replicate 256 (.bool false))) w)(I:(P.info? (ρ.t 116)).map (·.size)=some 256)(s cutset:ByteArray)(k:Nat)(y:UInt8)(w:World)(h2:2<=cutset.size)(h0:0<s.size)(z:cutset.size<4294967281)
  (D:∀(j:Nat)b,j<k->cutset.data.toList[j]? = some b->b.toNat<128)(hy:cutset.data.toList[k]? = some y)(J:128<=y.toNat)(R:ByteArray)
  (hU:∀W,Below w w W->Calls P (ρ.f 235) #[s,cutset] W fun e w'=>e=.returned (.string R)/\Below W W w'):
  Calls P (ρ.f 161) #[s,cutset] w fun e w'=>e=.returned (.string R)/\Below w w w':=by
 have hM:=AN { L with } M I cutset k y w z D hy J;clear D hy J;have gj:cutset.toList.isEmpty=false:=by
  rw[Lib.toList_data];cases h:cutset.data.toList with
  |nil=>have:=Lib.size_eq cutset;rw[h,jT]at this;omega
  |cons _ _=>rfl
 have x:s.toList.isEmpty=false:=by
  rw[Lib.toList_data];cases h:s.data.toList with
  |nil=>have:=Lib.size_eq s;rw[h,jT]at this;omega
  |cons _ _=>rfl
 have gt:((cutset.size:Int)==1)=false:=beq_eq_false_iff_ne.2 (by omega);(have O:(storeCells ⟨w.heap.size+1,0,none⟩ (Lib.setCells (cutset.data.toList.take k)).toList 0).run P ((w.alloc (.cells (Lib.setCells (cutset.data.toList.take k)) (ρ.t 116))).alloc (.cells (Array.replicate 256 (.bool false)) (ρ.t 116)))=.ok () ((w.alloc (.cells (Lib.setCells (cutset.data.toList.take k)) (ρ.t 116))).alloc (.cells (Lib.setCells (cutset.data.toList.take k)) (ρ.t 116))):=by have:=run_storeCells_new (P:=P) (w.alloc (.cells (Lib.setCells (cutset.data.toList.take k)) (ρ.t 116))) (ρ.t 116) (Array.replicate 256 (.bool false)) (Lib.setCells (cutset.data.toList.take k)) (by rw[xd];exact I) (by rw[xd,Array.size_replicate]) (Lib.setCells_one _);simpa using this);have gs:=xd (cutset.data.toList.take k);have hB:Below w w ((w.alloc (.cells (Lib.setCells (cutset.data.toList.take k)) (ρ.t 116))).alloc (.cells (Lib.setCells (cutset.data.toList.take k)) (ρ.t 116))):=((gC _ _).alloc (gA _) _).alloc (by simp) _;have mixed:=L.mixed;have t0:=L.t0;have a0:=L.a0;have z0:=L.z0;have v0:=L.v0;have t3:=L.t3;have a3:=L.a3;have z3:=L.z3;have v3:=L.v3;have t4:=L.t4;have a4:=L.a4;have z4:=L.z4;have v4:=L.v4;have t5:=L.t5;have a5:=L.a5;have z5:=L.z5;have v5:=L.v5;have t9:=L.t9;have a9:=L.a9;have z9:=L.z9;have v9:=L.v9;have gr:=L.t21;have gu:=L.a21;have gp:=L.z21;have gq:=L.v21;have gi:=L.t105;have gn:=L.a105;have gb:=L.z105;have ge:=L.v105;have gh:=L.t116;have gg:=L.t124;have gm:=L.a124;have ga:=L.z124;have gd:=L.v124;have gl:∀args w,(callFunc (ρ.f 227) args).run P w=.ok (.enter (ρ.f 227) args) w:=enters_of L.f227 (by kernel_rfl) rfl;have gk:∀args w,(callFunc (ρ.f 235) args).run P w=.ok (.enter (ρ.f 235) args) w:=enters_of L.f235 (by kernel_rfl) rfl;have hT:=hU _ hB;clear hU;(go_enter L.f161,Body.n161_ntmps ρ);go_wp2_with (go_at_fn (ρ.f 227);refine hM.mono ?_;rintro e w'⟨rfl,q⟩;rw[q]);simp only[L.z116,Result.andThen,↓reduceIte,O];rw[Oper.upon_skip];clear hM O;go_wp2_with (go_at_fn (ρ.f 235);refine hT.mono ?_;rintro e w'⟨rfl,q⟩);go_ret;exact⟨rfl,aE hB q⟩
end
end
section
open Go.RowKit Go.Lib Go.Proofs
def aC(s sign:ByteArray):Bool×ByteArray:=
 let t:=Lib.trimLeftS s.data.toList [32,9]
 if Lib.hasPrefix t sign.data.toList then(true,⟨(Lib.trimPrefix t sign.data.toList).toArray⟩)else(false,⟨t.toArray⟩)
abbrev fS:=Option (Tx×ByteArray)
def ew(part:ByteArray->fS)(sign:ByteArray):Nat->List Tx->ByteArray->Option (List Tx×ByteArray)
 |0,_,_=>none
 | k + 1,l,s=>if(aC s sign).1 then(match part (aC s sign).2 with
     |some (x,s2)=>ew part sign k (l++[x]) s2
     |none=>none)else some (l,(aC s sign).2)
def AO(sign:ByteArray)(l:List Tx):Tx:=match l with
 |[x]=>x
 |l=>.mk sign ⟨#[]⟩ l
def nQ(part:ByteArray->fS)(sign:ByteArray)(s:ByteArray):fS:=match part s with
 |none=>none
 | some (x,s1)=>match ew part sign (s1.size+1) [x] s1 with
   |none=>none
   |some (l,s2)=>some (AO sign l,s2)
def pl(s:ByteArray):Nat->Nat->Nat
 |0,i=>i
 |f+1,i=>if i<s.size/\nP (ai s i)=true then pl s f (i+1)else i
def fp(s:ByteArray):Nat:=pl s s.size 0
theorem B9(s:ByteArray):∀(f i:Nat),i<=s.size->pl s f i<=s.size
 |0,_,h=>h
 |f+1,i,h=>by
  rw[pl];split
  ·exact B9 s f (i+1) (by omega)
  ·exact h
def ru:ByteArray:=⟨#[38,38]⟩
def NY:ByteArray:=⟨#[124,124]⟩
def tM:ByteArray:=⟨#[33]⟩
def Ca:ByteArray:=⟨#[40]⟩
def uM:ByteArray:=⟨#[41]⟩
def cZ:Nat->ByteArray->fS
 |0,_=>none
 | f+1,s=>
  if(aC s tM).1 then(match cZ f (aC s tM).2 with
   |some (x,s2)=>some (.mk tM ⟨#[]⟩ [x],s2)
   |none=>none)
  else if(aC (aC s tM).2 Ca).1 then(match nQ (nQ (cZ f) ru) NY (aC (aC s tM).2 Ca).2 with
   |some (x,s3)=>if(aC s3 uM).1 then some (x,(aC s3 uM).2)else none
   |none=>none)
  else
   let t:=(aC (aC s tM).2 Ca).2
   if fp t=0 then none else some (.mk ⟨#[]⟩ (t.extract 0 (fp t)) [],t.extract (fp t) t.size)
def lP(f:Nat)(s:ByteArray):fS:=nQ (nQ (cZ f) ru) NY s
theorem FJ(l c:List UInt8):(Lib.trimLeftS l c).length<=l.length:=by unfold Lib.trimLeftS;exact(List.dropWhile_sublist _).length_le
theorem Iy(t p:List UInt8)(h:Lib.hasPrefix t p=true):(Lib.trimPrefix t p).length+p.length=t.length:=by unfold Lib.trimPrefix;rw[gL h,jE];have:=(List.isPrefixOf_iff_prefix.1 h).length_le;omega
theorem eh(s sign:ByteArray):(aC s sign).2.size<=s.size/\((aC s sign).1=true->(aC s sign).2.size+sign.size<=s.size):=by
 have h:=FJ s.data.toList [32,9];have O:s.data.toList.length=s.size:=kR;have M:sign.data.toList.length=sign.size:=kR;unfold aC;simp only;split
 ·rename_i I;have J:=Iy _ _ I;have D:∀l:List UInt8,(⟨l.toArray⟩:ByteArray).size=l.length:=fun _=>jR;rw[D];exact⟨by omega,fun _=>by omega⟩
 ·have D:∀l:List UInt8,(⟨l.toArray⟩:ByteArray).size=l.length:=fun _=>jR;rw[D];exact⟨by omega,nofun⟩
def pI(part:ByteArray->fS):Prop:=∀s x s',part s=some (x,s')->s'.size<=s.size
theorem uN{part:ByteArray->fS}(D:pI part)(sign:ByteArray):∀(k:Nat)(l:List Tx)(s:ByteArray)(m:List Tx)(s':ByteArray),ew part sign k l s=some (m,s')->s'.size<=s.size
 |0,_,_,_,_,h=>by cases h
 | k+1,l,s,m,s',h=>by
  have I:=eh s sign;rw[ew]at h;split at h
  ·split at h
   ·rename_i x s2 he;have M:=uN D sign k _ _ _ _ h;have J:=D _ _ _ he;omega
   ·cases h
  ·(obtain⟨rfl,rfl⟩:l=m/\(aC s sign).2=s':=by simpa using h);exact I.1
theorem rv{part:ByteArray->fS}(D:pI part)(sign:ByteArray):pI (nQ part sign):=by
 intro s x s' h;unfold nQ at h;split at h
 ·cases h
 ·rename_i y s1 he;split at h
  ·cases h
  ·rename_i l s2 hm;(obtain⟨-,rfl⟩:AO sign l=x/\s2=s':=by simpa using h);exact gM (uN D sign _ _ _ _ _ hm) (D _ _ _ he)
theorem fy:∀f,pI (cZ f)
 |0=>fun _ _ _ h=>by cases h
 | f+1=>fun s x s' h=>by
  have M:=eh s tM;have J:=eh (aC s tM).2 Ca;have D:=rv (rv (fy f) ru) NY;rw[cZ]at h;split at h
  ·split at h
   ·rename_i y s2 he;(obtain⟨-,rfl⟩:Tx.mk tM ⟨#[]⟩ [y]=x/\s2=s':=by simpa using h);have:=fy f _ _ _ he;omega
   ·cases h
  ·split at h
   ·split at h
    ·rename_i y s3 he;have I:=eh s3 uM;split at h
     ·(obtain⟨-,rfl⟩:y=x/\(aC s3 uM).2=s':=by simpa using h);have:=D _ _ _ he;omega
     ·cases h
    ·cases h
   ·simp only at h;split at h
    ·cases h
    ·simp only[Option.some.injEq,Prod.mk.injEq]at h;rw[<-h.2,gW];omega
def uU(part:ByteArray->fS):Prop:=∀s x s',part s=some (x,s')->s.size<=65536->cU x
theorem uV{part:ByteArray->fS}(J:pI part)(M:uU part)(sign:ByteArray)(I:0<sign.size):∀(k:Nat)(l:List Tx)(s:ByteArray)(m:List Tx)(s':ByteArray),ew part sign k l s=some (m,s')->s.size<=65536->(∀x∈l,cU x) ->
  (∀x∈m,cU x)/\m.length<=l.length+s.size
 |0,_,_,_,_,h,_,_=>by cases h
 | k+1,l,s,m,s',h,hs,O=>by
  have h1:=eh s sign;rw[ew]at h;split at h
  ·rename_i z;split at h
   ·rename_i x s2 he;have h3:=J _ _ _ he;have h4:=h1.2 z;have q:=uV J M sign I k _ _ _ _ h (by omega) (fun y D=>by
     rcases List.mem_append.1 D with D|D
     ·exact O y D
     ·rw[List.mem_singleton.1 D];exact M _ _ _ he (by omega))
    rw[gJ,vG]at q;exact⟨q.1,by omega⟩
   ·cases h
  ·(obtain⟨rfl,-⟩:l=m/\(aC s sign).2=s':=by simpa using h);exact⟨O,by omega⟩
theorem tT{part:ByteArray->fS}(M:pI part)(O:uU part)(sign:ByteArray)(I:0<sign.size):uU (nQ part sign):=by
 intro s x s' h hs;unfold nQ at h;split at h
 ·cases h
 ·rename_i y s1 he;split at h
  ·cases h
  ·rename_i l s2 hmr;(obtain⟨rfl,-⟩:AO sign l=x/\s2=s':=by simpa using h);have q:=M _ _ _ he;have J:=uV M O sign I _ _ _ _ _ hmr (by omega) (fun z hz=>by rw[List.mem_singleton.1 hz];exact O _ _ _ he hs);simp only[vG]at J;have D:cU (.mk sign ⟨#[]⟩ l):=⟨by omega,gT _,J.1⟩
   unfold AO;split
   ·exact J.1 _ (by simp)
   ·exact D
theorem sE:∀f,uU (cZ f)
 |0=>fun _ _ _ h=>by cases h
 | f+1=>fun s x s' h hs=>by
  have J:=eh s tM;have I:=eh (aC s tM).2 Ca;have D:=tT (rv (fy f) ru) (tT (fy f) (sE f) ru (by decide)) NY (by decide);rw[cZ]at h;split at h
  ·split at h
   ·rename_i y s2 he;(obtain⟨rfl,-⟩:Tx.mk tM ⟨#[]⟩ [y]=x/\s2=s':=by simpa using h);exact⟨vF rfl,gT _,fun z hz=>by rw[List.mem_singleton.1 hz];exact sE f _ _ _ he (by omega)⟩
   ·cases h
  ·split at h
   ·split at h
    ·rename_i y s3 he;split at h
     ·(obtain⟨rfl,-⟩:y=x/\(aC s3 uM).2=s':=by simpa using h);exact D _ _ _ he (by omega)
     ·cases h
    ·cases h
   ·simp only at h;split at h
    ·cases h
    ·simp only[Option.some.injEq,Prod.mk.injEq]at h;rw[<-h.1];exact⟨by decide,by rw[gW];omega,nofun⟩
theorem Cl(f:Nat):uU (lP f):=tT (rv (fy f) ru) (tT (fy f) (sE f) ru (by decide)) NY (by decide)
def fU(s:ByteArray):Tx×Int:=
 if 500<s.size then(si,12)else match lP (s.size+1) s with
  |none=>(si,8)
  |some (x,s1)=>if(decide ((aC s1 ⟨#[]⟩).2=(⟨#[]⟩:BA))&&bo 100 x)=true then(x,0)else(si,8)
theorem pK:cU si:=⟨gT _,gT _,nofun⟩
theorem FU(s:ByteArray):cU (fU s).1:=by
 unfold fU;split
 ·exact pK
 ·split
  ·exact pK
  ·rename_i x s1 he;split
   ·exact Cl _ _ _ _ he (by omega)
   ·exact pK
theorem IS{w:World}{g:Nat}{t:TypeId}{a:Value}(h:aa w g t #[a]):w.cell? ⟨g,0,none⟩=some a:=(h.cell 0).trans rfl
theorem yX(part:R Nd)(en:ByteArray)(c:Cx):∀(g:Nat)(acc:List Nd)(s:St)(l:List Nd)(s':St),aU part en g acc c s=.ok l s'->l.length<=acc.length+g
 |0,_,_,_,_,h=>by simp[aU]at h
 | g+1,acc,s,l,s',h=>by
  simp only[aU]at h;split at h
  ·injection h with J _;subst J;omega
  ·cases D:part c s with
   |out=>rw[D]at h;cases h
   |fail p=>rw[D]at h;cases h
   | ok n s1=>
    rw[D]at h;simp only[d5.bind_ok]at h;split at h
    ·injection h with J _;subst J;simp
    ·cases I:need ⟨#[44]⟩ c s1 with
     |out=>rw[I]at h;cases h
     |fail p=>rw[I]at h;cases h
     |ok u s2=>rw[I]at h;have:=yX part en c g (acc++[n]) s2 l s' h;simp at this;omega
theorem rH{part:R Nd}{en:ByteArray}{c:Cx}{g:Nat}{s:St}{l:List Nd}{s':St}(h:bZ (aU part en g []) c s=.ok l s'):l.length<=g:=by
 unfold bZ at h;cases D:aU part en g [] c { s with head:=false }with
 |out=>rw[D]at h;cases h
 |fail p=>rw[D]at h;cases h
 |ok l1 s1=>rw[D]at h;simp only[d5.bind_ok]at h;injection h with I _;subst I;have:=yX part en c g [] _ _ _ D;simpa using this
theorem oO{X:Nat->Prop}{w:World}{size n:Nat}{A:Option Addr}{xs:List Value}(h:bK X w size A n xs)(J:0<size):aA w w.heap.size size A n xs:=by refine⟨h.1,fun D=>?_⟩;obtain⟨b,off,rfl,_,I⟩:=h.2 D;(have M:0<xs.length:=by rw[h.1];exact Nat.mul_pos D J);refine⟨_,rfl,gU w _ (I 0 xs[0] (gO M)),fun j u hu=>?_⟩;rw[iU];exact I j u hu
theorem iL{X:Nat->Prop}{w:World}:∀{l:List Nd}{xs:List Value},ae X w l xs->∀u∈xs,u.oneCell'=true
 |[],xs,h=>by unfold ae at h;subst h;simp
 |n::l,xs,h=>by
  unfold ae at h;obtain⟨ys,zs,rfl,J,I⟩:=h;obtain⟨A,cap,_,rfl,_⟩:=J.toV;intro u D;rcases List.mem_append.1 D with D|D
  ·exact rf n A cap u D
  ·exact iL I u D
theorem oP{w:World}{K B:Nat}{a b c d:Value}(hb:aa w K 41 #[a,b,c,d])(D:B<=K):w.ownsRow B 41 4 (.slice (some ⟨K,0,none⟩) 1 1) 1 [a,b,c,d]:=
 ⟨rfl,.inr ⟨K,1,#[a,b,c,d],rfl,D,hb,gA _,by unfold maxLen;omega,rfl,rfl⟩⟩
theorem wi{X:Nat->Prop}{w:World}{B n:Nat}{v:Value}{l:List Nd}{xs:List Value}(h:w.ownsRow B 41 4 v n xs)(O:l.length=n)(y:∀g,v.ownBlock=some g->X g)(I:ae X w l xs):cS X w v l:=by
 subst O;rcases h.2 with⟨rfl,z⟩|⟨g,cap,cur,rfl,hg,x,D,_,M,J⟩
 ·exact⟨none,0,xs,by rw[z],by omega,⟨h.1,fun h=>by omega⟩,I⟩
 ·refine⟨_,cap,xs,rfl,D,⟨h.1,fun _=>⟨g,0,rfl,y g rfl,fun j u hu=>?_⟩⟩,I⟩;(have q:j<l.length*4:=by have:=(List.getElem?_eq_some_iff.1 hu).1;rw[h.1]at this;exact this);rw[kL];unfold World.cell?;rw[x];simp only[qT,gX,kK];rw[<-J,vp q]at hu;rw[<-hu];simp
theorem rI{w:World}{B n:Nat}{t:TypeId}{size:Nat}{v:Value}{xs:List Value}(h:w.ownsRow B t size v n xs):∃A c,v=.slice A n c/\n<=c:=by
 rcases h.2 with⟨rfl,I⟩|⟨g,cap,cur,rfl,_,_,D,_⟩
 ·exact⟨none,0,by rw[I],by omega⟩
 ·exact⟨_,cap,rfl,D⟩
theorem au.grownNew{E:bC}{s:St}{w w1 w2:World}{K:Nat}(h:au E s w w1)(D:w1.grownBy w2 (some K))(J:w.heap.size<=K)(I:E.R<K):au E s w w2:=
 ⟨h.rd.grown D (fun g e=>by injection e with e;omega),D.os.trans h.gr.os,D.tape.trans h.gr.tape,D.output.trans h.gr.output,gM h.gr.size D.size,fun k hk hne=>(D.block k (jY hk h.gr.size) (fun e=>by injection e with e;omega)).trans (h.gr.block k hk hne)⟩
end
end Go.Proofs.YtcoiialmdncpfaaGreatDoor
