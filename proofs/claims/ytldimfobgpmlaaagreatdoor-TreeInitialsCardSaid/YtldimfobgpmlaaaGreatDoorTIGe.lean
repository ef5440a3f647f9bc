/- The walks, part 4: the Go functions compute their plain functions. Printed by a program of this claim's author. Conditions: none but that the plain function has a value. -/
import Derived.Test.YtldimfobgpmlaaaGreatDoorTIGd
set_option autoImplicit true
set_option linter.unusedVariables false
set_option maxRecDepth 100000
set_option maxHeartbeats 40000000
namespace Go.Lg
open Go Go.Proofs
variable {G : Store} {S : List Seg} {w : World}
theorem c117 {v0 : Value} {d0 : ByteArray} (I : Inv w G S) (hL : Laid 0 G) {r : Bool} (h0 : RepV G v0 d0) (p : p_ValidName d0 = some r) :
 Calls Tryz.prog 117 #[v0] w (RV (Rt G S r)) := by
 obtain rfl:=h0.str
 refine nt (n:=46) 2 [_] (h:=rfl) (res1 rfl) fun _=>pg rfl (sq (sg (o_p 3 rfl (obk p fun a b p=>oq (fun s w=>Inv w G S∧Hx s [(0,.string d0),(12,.bool a)]) ?_ ?_))))
 replace p:=b
 refine sp 8 p rfl (fun p=>?_) fun p=>?_
 cases p
 exact o_p 4 rfl (o_nil (⟨I,hx rfl⟩))
 cases p
 exact o_p 4 rfl (o_nil (⟨I,hx rfl⟩))
 rintro s _ ⟨c,_,rfl⟩
 refine nx (wpC_cond rfl (fun q=>?_) (fun q=>?_))
 replace p:=cT q p
 cases p
 exact pg rfl (rt (pr (Rt.mk lr c rb)))
 replace p:=cF q p
 refine sn (sq (sg (o_p 1 rfl (o_range c rfl rfl rfl rfl rfl rfl fun d _ f=>nf (en (obk p fun g h p=>cq (fun s w=>∃ i : Nat,g = .inl i∧Inv w G ([(d,.stringIter d0 i)]::S)∧Hx s [(0,.string d0)]) ?_ ?_))))))
 have j:=p
 refine bk (fun (k : Nat) s w=>Inv w G ([(d,.stringIter d0 k)]::S)∧Hx s [(0,.string d0),(14,pt d)]) h ⟨f,hx rfl⟩ ?_
 clear h
 rintro k _ s _ p ⟨l,_,rfl⟩
 refine sg (o_next l 0 rfl rfl rfl rfl rfl (fun q _ m=>?_) (fun q=>?_))
 replace p:=cT q p
 refine nf (o_p 1 rfl (en (sq (wpC_cond rfl (fun q=>?_) (fun q=>?_)))))
 refine sn (wpC_block (pg rfl (sg (o_p 3 rfl (obk p fun n o p=>oq (fun s w=>Inv w G ([(d,.stringIter d0 (k + (Utf8.decode d0 k).2))]::S)∧Hx s [(0,.string d0),(3,it (k : Int)),(4,.int .i32 ((Utf8.decode d0 k).1 : Int)),(5,.bool n),(14,pt d)]) ?_ ?_)))))
 replace p:=o
 refine sp 21 p rfl (fun p=>?_) fun p=>?_
 cases p
 exact o_p 4 rfl (o_nil (⟨m,hx rfl⟩))
 cases p
 exact o_p 4 rfl (o_nil (⟨m,hx rfl⟩))
 rintro s _ ⟨t,_,rfl⟩
 refine nx (sg (o_p 3 rfl (obk p fun u v p=>oq (fun s w=>Inv w G ([(d,.stringIter d0 (k + (Utf8.decode d0 k).2))]::S)∧Hx s [(0,.string d0),(14,pt d),(42,.bool u)]) ?_ ?_)))
 replace p:=v
 refine sp 27 p rfl (fun p=>?_) fun p=>?_
 refine o_p 3 rfl (sp 30 p rfl (fun p=>?_) fun p=>?_)
 cases p
 exact o_p 12 rfl (o_nil (⟨t,hx rfl⟩))
 refine o_p 3 rfl (sp 33 p rfl (fun p=>?_) fun p=>?_)
 cases p
 exact o_p 9 rfl (o_nil (⟨t,hx rfl⟩))
 refine o_p 4 rfl (sp 37 p rfl (fun p=>?_) fun p=>?_)
 cases p
 exact o_p 5 rfl (o_nil (⟨t,hx rfl⟩))
 cases p
 exact o_p 5 rfl (o_nil (⟨t,hx rfl⟩))
 cases p
 exact o_p 15 rfl (o_nil (⟨t,hx rfl⟩))
 rintro s _ ⟨x,_,rfl⟩
 refine nx (cd p rfl (fun p=>?_) fun p=>?_)
 refine pg rfl (rt (br ?_))
 cases p
 refine ⟨_,rfl,?_⟩
 rintro rfl
 have p:=j
 cases p
 exact br (pr (pr (Rt.mk lr (x.del 0) rb)))
 refine wpC_skip ?_
 cases p
 exact bn (nx ⟨_,rfl,⟨x,hx rfl⟩⟩)
 cases q
 replace p:=cF q p
 refine nf (o_p 1 rfl (en (sq (wpC_cond rfl (fun q=>?_) (fun q=>?_)))))
 cases q
 refine ex (px ?_)
 cases p
 refine ⟨_,rfl,?_⟩
 rintro rfl
 exact bh (nx (⟨_,rfl,l,hx rfl⟩))
 rintro s _ ⟨i,rfl,j,_,rfl⟩
 refine nx (sg (o_p 1 rfl (obk p fun _ k p=>ca okf177 rfl (rvb (c177 j hL (RepV.ofStr _ _) k) fun _ _ l m=>nf ?_))))
 cases p
 exact o_p 2 rfl (en (rt (Rt.mk l (m.del 0) rb)))
theorem c173 {v0 : Value} {d0 : Protocol} (I : Inv w G S) (hL : Laid 0 G) {r : Int} (h0 : RepV G v0 d0) (p : p_names d0 = some r) :
 Calls Tryz.prog 173 #[v0] w (RV (Rt G S r)) := by
 have _:=h0
 obtain ⟨a,b,c,d,f,g,h,rfl,i,j,k,_,_,_,_⟩:=Protocol.unp h0
 refine nt (n:=32) 2 [_] (h:=rfl) (res1 rfl) fun _=>sg ?_
 refine o_box I rfl rfl rfl (cs:=[.string d0.name,it d0.topology,a,b,c,it d0.fault,d,f,g,h]) rfl fun l _ m=>nf ?_
 refine o_p 1 rfl (en (sg (o_p 1 rfl (lt m 0 rfl (o_p 1 rfl (lt m 0 rfl (o_p 1 rfl (lt m 0 rfl ?_))))))))
 refine o_bs (l:=[d0.states,d0.messages,d0.values]) (vs:=[a,b,c]) m ⟨i,⟨j,⟨k,trivial⟩⟩⟩ rfl rfl rfl ⟨rfl,rfl,⟨rfl,rfl,⟨rfl,rfl,trivial⟩⟩⟩ rfl elk22 rfl rfl rfl fun _ _ _ _ n o=>nf ?_
 obtain ⟨_,t,u,v⟩:=Inv.frz o 0 rfl n
 refine obk p fun x y p=>?_
 refine ca okf194 rfl (rv (c194 u v y) fun _ _ z A B C=>?_)
 refine nf (o_p 1 rfl (en (sq (sg (o_p 1 rfl ?_)))))
 obtain ⟨D,F,rfl,_⟩:=C.slice
 refine o_p 2 rfl (en (obk p fun H J p=>?_))
 refine cq (fun s w=>∃ K : Unit,∃ M,H = .inl K∧Le z M∧Inv w M ([(l,blk [.string d0.name,it d0.topology,a,b,c,it d0.fault,d,f,g,h] 27)]::S)∧Hx s []) ?_ ?_
 have N:=p
 refine bk (fun (O : Int) s w=>∃ P,Le z P∧Inv w P ([(l,blk [.string d0.name,it d0.topology,a,b,c,it d0.fault,d,f,g,h] 27)]::S)∧Hx s [(3,(.slice D x.length F)),(14,(.slice D x.length F)),(15,it (x.length : Int)),(16,it O)]) J ⟨z,lr,B,hx rfl⟩ ?_
 clear J
 rintro O _ s _ p ⟨P,Q,R,_,rfl⟩
 refine pg rfl (sq (cd p rfl (fun p=>?_) fun p=>?_))
 refine sn (sq ?_)
 refine wpC_block ?_
 refine sg (o_p 1 rfl (obk p fun _ T p=>?_))
 refine o_ix (C.m Q).slice T rfl rfl rfl rfl rfl rfl rfl rfl (fun _ U=>?_) rfl
 refine ld R U rfl fun _ V=>?_
 obtain rfl:=V.str
 refine o_p 2 rfl (en (sg (o_p 1 rfl (obk p fun _ W p=>?_))))
 refine ca okf117 rfl (rvb (c117 R (Laid.mono ((t.t A).t Q) hL) (RepV.ofStr _ _) W) fun _ X Y Z=>?_)
 refine nf (o_p 2 rfl (obk p fun a0 a1 p=>?_))
 refine oq (fun s w=>∃ a2,Le X a2∧Inv w a2 ([(l,blk [.string d0.name,it d0.topology,a,b,c,it d0.fault,d,f,g,h] 27)]::S)∧Hx s [(3,(.slice D x.length F)),(14,(.slice D x.length F)),(15,it (x.length : Int)),(16,it O),(30,.bool a0)]) ?_ ?_
 replace p:=a1
 refine sp 24 p rfl (fun p=>?_) fun p=>?_
 refine o_p 4 rfl (o_no rfl rfl ?_)
 cases p
 exact o_p 1 rfl (o_nil (⟨X,lr,Z,hx rfl⟩))
 refine o_p 2 rfl (obk p fun _ a3 p=>?_)
 refine o_sl (C.m (Q.t Y)).slice a3 rfl rfl rfl rfl rfl rfl rfl (.inr ⟨rfl,rfl⟩) (.inl rfl) (fun _ _ a4=>?_) rfl
 replace a4:=SliceAt.repV a4
 refine o_p 1 rfl (obk p fun _ a5 p=>?_)
 refine ca okf195 rfl (rvb (c195 Z a4 (RepV.ofStr _ _) a5) fun _ a6 a7 a8=>?_)
 refine nf ?_
 cases p
 exact o_p 1 rfl (o_nil (⟨a6,a7,a8,hx rfl⟩))
 rintro s _ ⟨a2,a3,a4,_,rfl⟩
 refine nx (cd p rfl (fun p=>?_) fun p=>?_)
 refine pg rfl (rt (br (pr ?_)))
 cases p
 refine ⟨_,rfl,?_⟩
 rintro rfl
 have p:=N
 cases p
 exact br (pr (pr (Rt.mk ((((t.t A).t Q).t Y).t a3) (a4.del 0) ri)))
 refine wpC_skip ?_
 cases p
 exact bn (nx (rg (o_p 2 rfl (o_nil (nx ⟨_,rfl,⟨a2,((Q.t Y).t a3),a4,hx rfl⟩⟩)))))
 refine ex (px ?_)
 cases p
 refine ⟨_,rfl,?_⟩
 rintro rfl
 exact bh (nx (⟨_,P,rfl,Q,R,hx rfl⟩))
 rintro s _ ⟨K,M,rfl,N,O,_,rfl⟩
 cases p
 exact nx (pg rfl (rt (Rt.mk ((t.t A).t N) (O.del 0) ri)))
theorem c175 {v0 v1 : Value} {d0 : Protocol} {d1 : Int} (I : Inv w G S) (hL : Laid 0 G) {r : Int} (h0 : RepV G v0 d0) (h1 : RepV G v1 d1) (p : p_ruleError d0 d1 = some r) :
 Calls Tryz.prog 175 #[v0, v1] w (RV (Rt G S r)) := by
 have a:=h0
 obtain ⟨b,c,d,f,g,h,i,rfl,j,k,_,_,_,_,l⟩:=Protocol.unp h0
 obtain rfl:=h1.int
 refine nt (n:=188) 4 [_,_] (h:=rfl) (res1 rfl) fun _=>sg ?_
 refine o_box I rfl rfl rfl (cs:=[.string d0.name,it d0.topology,b,c,d,it d0.fault,f,g,h,i]) rfl fun m _ n=>nf ?_
 refine o_p 1 rfl (en (sg (o_p 1 rfl (lt n 0 rfl (o_p 1 rfl (obk p fun o t p=>ix l.slice t rfl rfl fun _ u=>ld n u rfl fun _ v=>?_))))))
 have x:=v
 obtain ⟨y,z,A,B,C,D,F,H,rfl,J,K,M,N,O,P,Q,R⟩:=Rule.unp v
 refine o_alloc n rfl rfl rfl zero93 fun T _ U=>nf ?_
 refine st U 0 rfl rfl (cs:=[.string o.name,it o.kind,it o.frm,it o.to,it o.partnerFrom,it o.partnerTo,y,z,A,B,it o.read,it o.write,C,it o.at_,D,F,H,it o.direction]) rfl (allc rfl (allc rfl (allc rfl (allc rfl (allc rfl (allc rfl (allc (RepV.one1 J rfl) (allc (RepV.one1 K rfl) (allc (RepV.one1 M rfl) (allc (RepV.one1 N rfl) (allc rfl (allc rfl (allc (RepV.one1 O rfl) (allc rfl (allc (RepV.one1 P rfl) (allc (RepV.one1 Q rfl) (allc (RepV.one1 R rfl) (allc rfl rfl)))))))))))))))))) rfl fun _ V=>nf ?_
 refine en (sg (o_p 1 rfl (lt V 1 rfl ?_)))
 obtain ⟨W,X,rfl,_⟩:=j.slice
 refine o_p 2 rfl (en (sg (o_p 1 rfl (lt V 1 rfl (o_p 1 rfl (obk p fun _ Y p=>?_))))))
 refine o_sl l.slice Y rfl rfl rfl rfl rfl rfl rfl (.inr ⟨rfl,rfl⟩) (.inl rfl) (fun _ _ Z=>?_) rfl
 replace Z:=SliceAt.repV Z
 obtain ⟨_,a0,a1,a2⟩:=Inv.frzB V 0 rfl x rfl
 refine o_mkf (fv:=[]) (cv:=[pt T]) rfl rfl rfl rfl rfl ?_ rfl
 refine obk p fun _ a3 p=>?_
 refine ca okf197 rfl (rvb (c197 a1 (Z.m a0) (Fn1.mk okf198 (fun _ hl _ _ _ _ _ I h0 hf=>c198 I h0 (PtrTo.mono hl a2) hf)) a3) fun _ _ a4 a5=>?_)
 refine nf (o_p 1 rfl (en (sq ?_)))
 refine wpC_block ?_
 refine sg (o_p 1 rfl (ld a5 (PtrTo.mono a4 (PtrTo.fld a2 0 rfl rfl)) rfl fun _ a6=>?_))
 obtain rfl:=a6.str
 refine obk p fun _ a7 p=>?_
 refine ca okf117 rfl (rvb (c117 a5 (Laid.mono (a0.t a4) hL) (RepV.ofStr _ _) a7) fun _ a8 a9 b0=>?_)
 refine nf (o_p 2 rfl (obk p fun b1 b2 p=>?_))
 refine oq (fun s w=>Inv w a8 ([(m,blk [.string d0.name,it d0.topology,(.slice W d0.states.length X),c,d,it d0.fault,f,g,h,i] 27)]::S)∧Hx s [(2,pt m),(5,pt T),(6,it (d0.states.length : Int)),(26,.bool b1)]) ?_ ?_
 replace p:=b2
 refine sp 31 p rfl (fun p=>?_) fun p=>?_
 cases p
 exact o_p 3 rfl (o_nil (⟨b0,hx rfl⟩))
 cases p
 exact o_p 3 rfl (o_nil (⟨b0,hx rfl⟩))
 rintro s _ ⟨b3,_,rfl⟩
 refine nx (cd p rfl (fun p=>?_) fun p=>?_)
 cases p
 exact pg rfl (rt (br (pr (Rt.mk ((a0.t a4).t a9) (b3.del 0) ri))))
 refine sg (o_p 1 rfl (ld b3 (PtrTo.mono (a4.t a9) (PtrTo.fld a2 1 rfl rfl)) rfl fun _ b4=>?_))
 obtain rfl:=b4.int
 refine o_p 1 rfl (lt b3 0 rfl (obk p fun _ b5 p=>?_))
 refine ca okf199 rfl (rvb (c199 b3 (RepV.ofInt _ _) (RepV.ofInt _ _) b5) fun _ b6 b7 b8=>?_)
 refine nf (o_p 2 rfl (obk p fun b9 e0 p=>?_))
 refine oq (fun s w=>∃ e1,Le b6 e1∧Inv w e1 ([(m,blk [.string d0.name,it d0.topology,(.slice W d0.states.length X),c,d,it d0.fault,f,g,h,i] 27)]::S)∧Hx s [(2,pt m),(5,pt T),(6,it (d0.states.length : Int)),(34,.bool b9)]) ?_ ?_
 replace p:=e0
 refine sp 41 p rfl (fun p=>?_) fun p=>?_
 refine o_p 3 rfl (o_no rfl rfl ?_)
 cases p
 exact o_p 2 rfl (o_nil (⟨b6,lr,b8,hx rfl⟩))
 refine ld b8 (PtrTo.mono ((a4.t a9).t b7) a2) rfl fun _ e2=>?_
 have e3:=e2
 obtain ⟨_,_,_,_,_,_,_,_,rfl,_,_,_,_,_,_,_,_⟩:=Rule.unp e2
 refine o_p 1 rfl (lt b8 0 rfl (obk p fun _ e4 p=>?_))
 refine ca okf200 rfl (rvb (c200 b8 e3 (RepV.ofInt _ _) e4) fun _ e5 e6 e7=>?_)
 refine nf ?_
 cases p
 exact o_p 2 rfl (o_nil (⟨e5,e6,e7,hx rfl⟩))
 rintro s _ ⟨e1,e2,e3,_,rfl⟩
 refine nx (cd p rfl (fun p=>?_) fun p=>?_)
 cases p
 exact pg rfl (rt (br (pr (Rt.mk ((((a0.t a4).t a9).t b7).t e2) (e3.del 0) ri))))
 refine wpC_skip (bn (nx (sq (sq ?_))))
 refine wpC_drawI hmTryz e3 (Cl e1 ([(m,blk [.string d0.name,it d0.topology,(.slice W d0.states.length X),c,d,it d0.fault,f,g,h,i] 27)]::S)) [(0,.any),(1,.here),(2,.any),(4,.any),(5,.far),(6,.any),(3,.eff true),(7,.eff false),(8,.eff false),(9,.eff false),(10,.any)] (by kernel_rfl) fun _ e4=>?_
 refine o_p 1 rfl (ld e4 (PtrTo.mono (((a4.t a9).t b7).t e2) (PtrTo.fld a2 2 rfl rfl)) rfl fun _ e5=>?_)
 obtain rfl:=e5.int
 refine o_p 2 rfl ?_
 refine o_ldF (Cl.le e4 lr) (PtrTo.mono (((a4.t a9).t b7).t e2) (PtrTo.fld a2 3 rfl rfl)) rfl rfl rfl rfl rfl fun _ e6=>?_
 obtain rfl:=e6.int
 refine o_p 1 rfl (obk p fun e7 e8 p=>?_)
 refine ca okf178 rfl (rvi (c178 e4 (RepV.ofInt _ _) (RepV.ofInt _ _) e8) fun _ _ e9 f0=>?_)
 refine ⟨fun _=>Cl.le f0 e9,obk p fun f1 f2 p=>?_⟩
 refine ca okf178 rfl (rvi (c178 f0 (RepV.ofInt _ _) (RepV.ofInt _ _) f2) fun _ _ f3 f4=>?_)
 refine nf ?_
 refine o_bs (l:=[e7,f1]) (vs:=[it e7,it f1]) f4 ⟨ri,⟨ri,trivial⟩⟩ rfl rfl rfl ⟨rfl,rfl,⟨rfl,rfl,trivial⟩⟩ rfl elk37 rfl rfl rfl fun f5 _ f6 _ f7 f8=>nf ?_
 obtain ⟨_,_,f9,g0,g1⟩:=Inv.lend f8 0 rfl f7
 refine obk p fun _ g2 p=>?_
 refine ca okf119 rfl (rvi (c119 f9 g0 g2) fun _ _ g3 g4=>?_)
 obtain ⟨g5,g6,g7⟩:=g1 _ _ _ g3 g4
 refine nf (o_p 1 rfl (en (pg rfl (cd p rfl (fun p=>?_) fun p=>?_))))
 cases p
 exact pg rfl (rt (pr (Rt.mk (((((((a0.t a4).t a9).t b7).t e2).t e9).t f3).t g6) ((g7.del 1).del 0) ri)))
 refine sn (sq (sg (o_p 1 rfl (ld g7 (PtrTo.mono ((((((a4.t a9).t b7).t e2).t e9).t f3).t g6) (PtrTo.fld a2 1 rfl rfl)) rfl fun _ g8=>?_))))
 obtain rfl:=g8.int
 refine en ?_
 refine wpC_block ?_
 refine pg rfl (cd p rfl (fun p=>?_) fun p=>?_)
 refine sq ?_
 refine wpC_drawI hmTryz g7 (Cl g5 ([(f5,blk f6 37)]::[(m,blk [.string d0.name,it d0.topology,(.slice W d0.states.length X),c,d,it d0.fault,f,g,h,i] 27)]::S)) [(0,.here),(1,.any),(2,.here),(4,.any),(5,.far),(6,.any),(8,.any),(9,.far),(10,.any),(12,.far),(13,.any),(14,.far),(16,.far),(17,.any),(18,.far),(20,.any),(21,.far),(22,.any),(23,.far),(24,.any),(3,.eff true),(7,.eff true),(11,.eff true),(15,.eff true),(19,.eff true),(25,.eff false),(26,.eff false),(27,.eff false),(28,.any)] (by kernel_rfl) fun _ g9=>?_
 refine lta g9 1 rfl (cs:=[.string d0.name,it d0.topology,(.slice W d0.states.length X),c,d,it d0.fault,f,g,h,i]) rfl (o_p 1 rfl (ld g9 (PtrTo.mono ((((((a4.t a9).t b7).t e2).t e9).t f3).t g6) (PtrTo.fld a2 7 rfl rfl)) rfl fun _ i0=>o_p 1 rfl ?_))
 refine o_ldF (Cl.le g9 lr) (PtrTo.mono ((((((a4.t a9).t b7).t e2).t e9).t f3).t g6) (PtrTo.fld a2 8 rfl rfl)) rfl rfl rfl rfl rfl fun _ i1=>?_
 refine o_p 2 rfl ?_
 refine o_ldF (Cl.le g9 lr) (PtrTo.mono ((((((a4.t a9).t b7).t e2).t e9).t f3).t g6) (PtrTo.fld a2 9 rfl rfl)) rfl rfl rfl rfl rfl fun _ i2=>?_
 refine o_p 1 rfl ?_
 refine o_ltaF (Cl.le g9 lr) (.S 1 rfl) rfl rfl rfl (cs:=[.string d0.name,it d0.topology,(.slice W d0.states.length X),c,d,it d0.fault,f,g,h,i]) rfl rfl rfl ?_
 refine o_p 1 rfl ?_
 refine o_ldF (Cl.le g9 lr) (PtrTo.mono ((((((a4.t a9).t b7).t e2).t e9).t f3).t g6) (PtrTo.fld a2 10 rfl rfl)) rfl rfl rfl rfl rfl fun _ i3=>?_
 obtain rfl:=i3.int
 refine o_ltaF (Cl.le g9 lr) (.S 1 rfl) rfl rfl rfl (cs:=[.string d0.name,it d0.topology,(.slice W d0.states.length X),c,d,it d0.fault,f,g,h,i]) rfl rfl rfl ?_
 refine o_p 1 rfl ?_
 refine o_ldF (Cl.le g9 lr) (PtrTo.mono ((((((a4.t a9).t b7).t e2).t e9).t f3).t g6) (PtrTo.fld a2 11 rfl rfl)) rfl rfl rfl rfl rfl fun _ i4=>?_
 obtain rfl:=i4.int
 refine o_p 1 rfl ?_
 refine o_ldF (Cl.le g9 lr) (PtrTo.mono ((((((a4.t a9).t b7).t e2).t e9).t f3).t g6) (PtrTo.fld a2 12 rfl rfl)) rfl rfl rfl rfl rfl fun _ i5=>?_
 refine o_p 1 rfl ?_
 refine o_ltF (Cl.le g9 lr) (.S 1 rfl) rfl rfl rfl rfl rfl rfl ?_
 obtain ⟨_,_,rfl,_⟩:=k.slice
 refine o_p 1 rfl (obk p fun i6 i7 p=>?_)
 refine ca okf201 rfl (rvi (c201 g9 (a.m (((((((a0.t a4).t a9).t b7).t e2).t e9).t f3).t g6)) i0 i7) fun _ _ i8 i9=>?_)
 refine ⟨fun _=>Cl.le i9 i8,obk p fun j0 j1 p=>?_⟩
 refine ca okf118 rfl (rvi (c118 i9 (i1.m i8) (RepV.ofInt _ _) j1) fun _ _ j2 j3=>?_)
 refine ⟨fun _=>Cl.le j3 (i8.t j2),obk p fun j4 j5 p=>?_⟩
 refine ca okf118 rfl (rvi (c118 j3 (i2.m (i8.t j2)) (RepV.ofInt _ _) j5) fun _ _ j6 j7=>?_)
 refine ⟨fun _=>Cl.le j7 ((i8.t j2).t j6),obk p fun j8 j9 p=>?_⟩
 refine ca okf202 rfl (rvi (c202 j7 (a.m ((((((((((a0.t a4).t a9).t b7).t e2).t e9).t f3).t g6).t i8).t j2).t j6)) (RepV.ofInt _ _) j9) fun _ _ k0 k1=>?_)
 refine ⟨fun _=>Cl.le k1 (((i8.t j2).t j6).t k0),obk p fun k2 k3 p=>?_⟩
 refine ca okf202 rfl (rvi (c202 k1 (a.m (((((((((((a0.t a4).t a9).t b7).t e2).t e9).t f3).t g6).t i8).t j2).t j6).t k0)) (RepV.ofInt _ _) k3) fun _ _ k4 k5=>?_)
 refine ⟨fun _=>Cl.le k5 ((((i8.t j2).t j6).t k0).t k4),obk p fun k6 k7 p=>?_⟩
 refine ca okf118 rfl (rvi (c118 k5 (i5.m ((((i8.t j2).t j6).t k0).t k4)) (RepV.ofInt _ _) k7) fun _ _ k8 k9=>?_)
 refine nf ?_
 refine o_bs (l:=[i6,j0,j4,j8,k2,k6]) (vs:=[it i6,it j0,it j4,it j8,it k2,it k6]) k9 ⟨ri,⟨ri,⟨ri,⟨ri,⟨ri,⟨ri,trivial⟩⟩⟩⟩⟩⟩ rfl rfl rfl ⟨rfl,rfl,⟨rfl,rfl,⟨rfl,rfl,⟨rfl,rfl,⟨rfl,rfl,⟨rfl,rfl,trivial⟩⟩⟩⟩⟩⟩ rfl elk37 rfl rfl rfl fun _ _ _ _ m0 m1=>nf ?_
 obtain ⟨_,_,m2,m3,m4⟩:=Inv.lend m1 0 rfl m0
 refine obk p fun _ m5 p=>?_
 refine ca okf119 rfl (rvi (c119 m2 m3 m5) fun _ _ m6 m7=>?_)
 obtain ⟨_,m8,m9⟩:=m4 _ _ _ m6 m7
 refine nf ?_
 cases p
 exact o_p 1 rfl (en (rt (br (pr (Rt.mk ((((((((((((((a0.t a4).t a9).t b7).t e2).t e9).t f3).t g6).t i8).t j2).t j6).t k0).t k4).t k8).t m8) (((m9.del 2).del 1).del 0) ri)))))
 refine pg rfl (cd p rfl (fun p=>?_) fun p=>?_)
 refine sq ?_
 refine wpC_drawI hmTryz g7 (Cl g5 ([(f5,blk f6 37)]::[(m,blk [.string d0.name,it d0.topology,(.slice W d0.states.length X),c,d,it d0.fault,f,g,h,i] 27)]::S)) [(0,.any),(1,.here),(2,.any),(4,.any),(5,.far),(6,.any),(8,.far),(9,.any),(10,.far),(12,.far),(13,.any),(14,.far),(3,.eff true),(7,.eff true),(11,.eff true),(15,.eff false),(16,.eff false),(17,.eff false),(18,.any)] (by kernel_rfl) fun _ g9=>?_
 refine o_p 1 rfl (ld g9 (PtrTo.mono ((((((a4.t a9).t b7).t e2).t e9).t f3).t g6) (PtrTo.fld a2 4 rfl rfl)) rfl fun _ i0=>?_)
 obtain rfl:=i0.int
 refine o_p 2 rfl ?_
 refine o_ldF (Cl.le g9 lr) (PtrTo.mono ((((((a4.t a9).t b7).t e2).t e9).t f3).t g6) (PtrTo.fld a2 5 rfl rfl)) rfl rfl rfl rfl rfl fun _ i1=>?_
 obtain rfl:=i1.int
 refine o_p 1 rfl ?_
 refine o_ltaF (Cl.le g9 lr) (.S 1 rfl) rfl rfl rfl (cs:=[.string d0.name,it d0.topology,(.slice W d0.states.length X),c,d,it d0.fault,f,g,h,i]) rfl rfl rfl ?_
 refine o_p 1 rfl ?_
 refine o_ldF (Cl.le g9 lr) (PtrTo.mono ((((((a4.t a9).t b7).t e2).t e9).t f3).t g6) (PtrTo.fld a2 10 rfl rfl)) rfl rfl rfl rfl rfl fun _ i2=>?_
 obtain rfl:=i2.int
 refine o_ltaF (Cl.le g9 lr) (.S 1 rfl) rfl rfl rfl (cs:=[.string d0.name,it d0.topology,(.slice W d0.states.length X),c,d,it d0.fault,f,g,h,i]) rfl rfl rfl ?_
 refine o_p 1 rfl ?_
 refine o_ldF (Cl.le g9 lr) (PtrTo.mono ((((((a4.t a9).t b7).t e2).t e9).t f3).t g6) (PtrTo.fld a2 11 rfl rfl)) rfl rfl rfl rfl rfl fun _ i3=>?_
 obtain rfl:=i3.int
 refine obk p fun i4 i5 p=>?_
 refine ca okf178 rfl (rvi (c178 g9 (RepV.ofInt _ _) (RepV.ofInt _ _) i5) fun _ _ i6 i7=>?_)
 refine ⟨fun _=>Cl.le i7 i6,obk p fun i8 i9 p=>?_⟩
 refine ca okf178 rfl (rvi (c178 i7 (RepV.ofInt _ _) (RepV.ofInt _ _) i9) fun _ _ j0 j1=>?_)
 refine ⟨fun _=>Cl.le j1 (i6.t j0),obk p fun j2 j3 p=>?_⟩
 refine ca okf202 rfl (rvi (c202 j1 (a.m (((((((((a0.t a4).t a9).t b7).t e2).t e9).t f3).t g6).t i6).t j0)) (RepV.ofInt _ _) j3) fun _ _ j4 j5=>?_)
 refine ⟨fun _=>Cl.le j5 ((i6.t j0).t j4),obk p fun j6 j7 p=>?_⟩
 refine ca okf202 rfl (rvi (c202 j5 (a.m ((((((((((a0.t a4).t a9).t b7).t e2).t e9).t f3).t g6).t i6).t j0).t j4)) (RepV.ofInt _ _) j7) fun _ _ j8 j9=>?_)
 refine nf ?_
 refine o_bs (l:=[i4,i8,j2,j6]) (vs:=[it i4,it i8,it j2,it j6]) j9 ⟨ri,⟨ri,⟨ri,⟨ri,trivial⟩⟩⟩⟩ rfl rfl rfl ⟨rfl,rfl,⟨rfl,rfl,⟨rfl,rfl,⟨rfl,rfl,trivial⟩⟩⟩⟩ rfl elk37 rfl rfl rfl fun _ _ _ _ k0 k1=>nf ?_
 obtain ⟨_,_,k2,k3,k4⟩:=Inv.lend k1 0 rfl k0
 refine obk p fun _ k5 p=>?_
 refine ca okf119 rfl (rvi (c119 k2 k3 k5) fun _ _ k6 k7=>?_)
 obtain ⟨_,k8,k9⟩:=k4 _ _ _ k6 k7
 refine nf ?_
 cases p
 exact o_p 1 rfl (en (rt (br (pr (Rt.mk ((((((((((((a0.t a4).t a9).t b7).t e2).t e9).t f3).t g6).t i6).t j0).t j4).t j8).t k8) (((k9.del 2).del 1).del 0) ri)))))
 refine pg rfl (cd p rfl (fun p=>?_) fun p=>?_)
 refine sq ?_
 refine wpC_drawI hmTryz g7 (Cl g5 ([(f5,blk f6 37)]::[(m,blk [.string d0.name,it d0.topology,(.slice W d0.states.length X),c,d,it d0.fault,f,g,h,i] 27)]::S)) [(0,.any),(1,.here),(2,.any),(4,.far),(5,.any),(6,.far),(8,.far),(9,.any),(10,.far),(3,.eff true),(7,.eff true),(11,.eff false),(12,.eff false),(13,.eff false),(14,.any)] (by kernel_rfl) fun _ g9=>?_
 refine o_p 1 rfl (ld g9 (PtrTo.mono ((((((a4.t a9).t b7).t e2).t e9).t f3).t g6) (PtrTo.fld a2 6 rfl rfl)) rfl fun _ i0=>o_p 1 rfl ?_)
 refine o_ltaF (Cl.le g9 lr) (.S 1 rfl) rfl rfl rfl (cs:=[.string d0.name,it d0.topology,(.slice W d0.states.length X),c,d,it d0.fault,f,g,h,i]) rfl rfl rfl ?_
 refine o_p 1 rfl ?_
 refine o_ldF (Cl.le g9 lr) (PtrTo.mono ((((((a4.t a9).t b7).t e2).t e9).t f3).t g6) (PtrTo.fld a2 10 rfl rfl)) rfl rfl rfl rfl rfl fun _ i1=>?_
 obtain rfl:=i1.int
 refine o_ltaF (Cl.le g9 lr) (.S 1 rfl) rfl rfl rfl (cs:=[.string d0.name,it d0.topology,(.slice W d0.states.length X),c,d,it d0.fault,f,g,h,i]) rfl rfl rfl ?_
 refine o_p 1 rfl ?_
 refine o_ldF (Cl.le g9 lr) (PtrTo.mono ((((((a4.t a9).t b7).t e2).t e9).t f3).t g6) (PtrTo.fld a2 11 rfl rfl)) rfl rfl rfl rfl rfl fun _ i2=>?_
 obtain rfl:=i2.int
 refine obk p fun i3 i4 p=>?_
 refine ca okf203 rfl (rvi (c203 g9 i0 (RepV.ofInt _ _) i4) fun _ _ i5 i6=>?_)
 refine ⟨fun _=>Cl.le i6 i5,obk p fun i7 i8 p=>?_⟩
 refine ca okf202 rfl (rvi (c202 i6 (a.m ((((((((a0.t a4).t a9).t b7).t e2).t e9).t f3).t g6).t i5)) (RepV.ofInt _ _) i8) fun _ _ i9 j0=>?_)
 refine ⟨fun _=>Cl.le j0 (i5.t i9),obk p fun j1 j2 p=>?_⟩
 refine ca okf202 rfl (rvi (c202 j0 (a.m (((((((((a0.t a4).t a9).t b7).t e2).t e9).t f3).t g6).t i5).t i9)) (RepV.ofInt _ _) j2) fun _ _ j3 j4=>?_)
 refine nf ?_
 refine o_bs (l:=[i3,i7,j1]) (vs:=[it i3,it i7,it j1]) j4 ⟨ri,⟨ri,⟨ri,trivial⟩⟩⟩ rfl rfl rfl ⟨rfl,rfl,⟨rfl,rfl,⟨rfl,rfl,trivial⟩⟩⟩ rfl elk37 rfl rfl rfl fun _ _ _ _ j5 j6=>nf ?_
 obtain ⟨_,_,j7,j8,j9⟩:=Inv.lend j6 0 rfl j5
 refine obk p fun _ k0 p=>?_
 refine ca okf119 rfl (rvi (c119 j7 j8 k0) fun _ _ k1 k2=>?_)
 obtain ⟨_,k3,k4⟩:=j9 _ _ _ k1 k2
 refine nf ?_
 cases p
 exact o_p 1 rfl (en (rt (br (pr (Rt.mk (((((((((((a0.t a4).t a9).t b7).t e2).t e9).t f3).t g6).t i5).t i9).t j3).t k3) (((k4.del 2).del 1).del 0) ri)))))
 refine pg rfl (cd p rfl (fun p=>?_) fun p=>?_)
 refine sg (o_p 1 rfl (ld g7 (PtrTo.mono ((((((a4.t a9).t b7).t e2).t e9).t f3).t g6) (PtrTo.fld a2 13 rfl rfl)) rfl fun _ g9=>?_))
 obtain rfl:=g9.int
 refine o_p 2 rfl (obk p fun i0 i1 p=>?_)
 refine oq (fun s w=>Inv w g5 ([(f5,blk f6 37)]::[(m,blk [.string d0.name,it d0.topology,(.slice W d0.states.length X),c,d,it d0.fault,f,g,h,i] 27)]::S)∧Hx s [(5,pt T),(6,it (d0.states.length : Int)),(9,.bool i0)]) ?_ ?_
 replace p:=i1
 refine sp 133 p rfl (fun p=>?_) fun p=>?_
 cases p
 exact o_p 15 rfl (o_nil (⟨g7,hx rfl⟩))
 refine o_p 1 rfl (ld g7 (PtrTo.mono ((((((a4.t a9).t b7).t e2).t e9).t f3).t g6) (PtrTo.fld a2 13 rfl rfl)) rfl fun _ i2=>?_)
 obtain rfl:=i2.int
 refine o_p 3 rfl (sp 138 p rfl (fun p=>?_) fun p=>?_)
 cases p
 exact o_p 10 rfl (o_nil (⟨g7,hx rfl⟩))
 refine o_p 1 rfl (ld g7 (PtrTo.mono ((((((a4.t a9).t b7).t e2).t e9).t f3).t g6) (PtrTo.fld a2 13 rfl rfl)) rfl fun _ i3=>?_)
 obtain rfl:=i3.int
 refine o_p 2 rfl (sp 142 p rfl (fun p=>?_) fun p=>?_)
 refine o_p 1 rfl (lt g7 1 rfl ?_)
 cases p
 exact o_p 4 rfl (o_nil (⟨g7,hx rfl⟩))
 cases p
 exact o_p 6 rfl (o_nil (⟨g7,hx rfl⟩))
 rintro s _ ⟨i2,_,rfl⟩
 refine nx (sq ?_)
 refine wpC_drawI hmTryz i2 (Cl g5 ([(f5,blk f6 37)]::[(m,blk [.string d0.name,it d0.topology,(.slice W d0.states.length X),c,d,it d0.fault,f,g,h,i] 27)]::S)) [(0,.any),(1,.here),(2,.any),(4,.any),(5,.far),(6,.any),(8,.any),(9,.far),(10,.any),(12,.any),(3,.eff true),(7,.eff true),(11,.eff false),(13,.eff false),(14,.eff false),(15,.eff false),(16,.any)] (by kernel_rfl) fun _ i3=>?_
 refine o_p 1 rfl (ld i3 (PtrTo.mono ((((((a4.t a9).t b7).t e2).t e9).t f3).t g6) (PtrTo.fld a2 14 rfl rfl)) rfl fun _ i4=>o_p 2 rfl ?_)
 refine o_ldF (Cl.le i3 lr) (PtrTo.mono ((((((a4.t a9).t b7).t e2).t e9).t f3).t g6) (PtrTo.fld a2 15 rfl rfl)) rfl rfl rfl rfl rfl fun _ i5=>?_
 refine o_p 2 rfl ?_
 refine o_ldF (Cl.le i3 lr) (PtrTo.mono ((((((a4.t a9).t b7).t e2).t e9).t f3).t g6) (PtrTo.fld a2 16 rfl rfl)) rfl rfl rfl rfl rfl fun _ i6=>?_
 refine o_p 2 rfl (obk p fun i7 i8 p=>?_)
 refine ca okf118 rfl (rvi (c118 i3 i4 (RepV.ofInt _ _) i8) fun _ _ i9 j0=>?_)
 refine ⟨fun _=>Cl.le j0 i9,obk p fun j1 j2 p=>?_⟩
 refine ca okf118 rfl (rvi (c118 j0 (i5.m i9) (RepV.ofInt _ _) j2) fun _ _ j3 j4=>?_)
 refine ⟨fun _=>Cl.le j4 (i9.t j3),obk p fun j5 j6 p=>?_⟩
 refine ca okf118 rfl (rvi (c118 j4 (i6.m (i9.t j3)) (RepV.ofInt _ _) j6) fun _ _ j7 j8=>?_)
 refine nf (obk p fun j9 k0 p=>?_)
 refine ca okf120 rfl (rvi (c120 j8 (RepV.ofBool _ _) (RepV.ofInt _ _) k0) fun _ _ k1 k2=>?_)
 refine nf ?_
 refine o_bs (l:=[i7,j1,j5,j9]) (vs:=[it i7,it j1,it j5,it j9]) k2 ⟨ri,⟨ri,⟨ri,⟨ri,trivial⟩⟩⟩⟩ rfl rfl rfl ⟨rfl,rfl,⟨rfl,rfl,⟨rfl,rfl,⟨rfl,rfl,trivial⟩⟩⟩⟩ rfl elk37 rfl rfl rfl fun _ _ _ _ k3 k4=>nf ?_
 obtain ⟨_,_,k5,k6,k7⟩:=Inv.lend k4 0 rfl k3
 refine obk p fun _ k8 p=>?_
 refine ca okf119 rfl (rvi (c119 k5 k6 k8) fun _ _ k9 m0=>?_)
 obtain ⟨_,m1,m2⟩:=k7 _ _ _ k9 m0
 refine nf ?_
 cases p
 exact o_p 1 rfl (en (rt (br (pr (Rt.mk ((((((((((((a0.t a4).t a9).t b7).t e2).t e9).t f3).t g6).t i9).t j3).t j7).t k1).t m1) (((m2.del 2).del 1).del 0) ri)))))
 refine wpC_skip (bn (nx (pg rfl (sq (sg (o_p 1 rfl (lt g7 1 rfl (o_p 1 rfl (en (obk p fun g9 i0 p=>?_))))))))))
 refine cq (fun s w=>Inv w g5 ([(f5,blk f6 37)]::[(m,blk [.string d0.name,it d0.topology,(.slice W d0.states.length X),c,d,it d0.fault,f,g,h,i] 27)]::S)∧Hx s [(5,pt T),(6,it (d0.states.length : Int)),(10,it g9.1),(11,it g9.2)]) ?_ ?_
 replace p:=i0
 refine cd p rfl (fun p=>?_) fun p=>?_
 cases p
 exact rg (o_p 2 rfl (o_nil (⟨g7,hx rfl⟩)))
 refine wpC_skip ?_
 cases p
 exact ⟨g7,hx rfl⟩
 rintro s _ ⟨i1,_,rfl⟩
 refine nx (sq ?_)
 refine wpC_drawI hmTryz i1 (Cl g5 ([(f5,blk f6 37)]::[(m,blk [.string d0.name,it d0.topology,(.slice W d0.states.length X),c,d,it d0.fault,f,g,h,i] 27)]::S)) [(0,.any),(1,.here),(2,.any),(4,.any),(5,.far),(6,.any),(8,.any),(9,.far),(10,.any),(11,.any),(3,.eff true),(7,.eff true),(12,.any),(13,.any),(14,.here),(15,.any),(16,.any),(17,.any),(18,.eff false),(19,.eff false),(20,.eff false),(21,.any)] (by kernel_rfl) fun _ i2=>?_
 refine o_p 1 rfl (ld i2 (PtrTo.mono ((((((a4.t a9).t b7).t e2).t e9).t f3).t g6) (PtrTo.fld a2 4 rfl rfl)) rfl fun _ i3=>?_)
 obtain rfl:=i3.int
 refine o_p 2 rfl ?_
 refine o_ldF (Cl.le i2 lr) (PtrTo.mono ((((((a4.t a9).t b7).t e2).t e9).t f3).t g6) (PtrTo.fld a2 5 rfl rfl)) rfl rfl rfl rfl rfl fun _ i4=>?_
 obtain rfl:=i4.int
 refine o_p 2 rfl ?_
 refine o_ldF (Cl.le i2 lr) (PtrTo.mono ((((((a4.t a9).t b7).t e2).t e9).t f3).t g6) (PtrTo.fld a2 17 rfl rfl)) rfl rfl rfl rfl rfl fun _ i5=>?_
 obtain rfl:=i5.int
 refine o_p 2 rfl (obk p fun i6 i7 p=>?_)
 refine ca okf178 rfl (rvi (c178 i2 (RepV.ofInt _ _) (RepV.ofInt _ _) i7) fun _ _ i8 i9=>?_)
 refine ⟨fun _=>Cl.le i9 i8,obk p fun j0 j1 p=>?_⟩
 refine ca okf178 rfl (rvi (c178 i9 (RepV.ofInt _ _) (RepV.ofInt _ _) j1) fun _ j2 j3 j4=>?_)
 refine ⟨fun _=>Cl.le j4 (i8.t j3),o_p 1 rfl (obk p fun j5 j6 p=>?_)⟩
 refine oq (fun s w=>∃ j7,Le j2 j7∧Inv w j7 ([(f5,blk f6 37)]::[(m,blk [.string d0.name,it d0.topology,(.slice W d0.states.length X),c,d,it d0.fault,f,g,h,i] 27)]::S)∧Hx s [(4,it j5)]) ?_ ?_
 replace p:=j6
 refine sp 179 p rfl (fun p=>?_) fun p=>?_
 refine o_p 5 rfl (obk p fun j8 j9 p=>?_)
 refine ca okf120 rfl (rvi (c120 j4 (RepV.ofBool _ _) (RepV.ofInt _ _) j9) fun _ _ k0 k1=>?_)
 refine nf ?_
 refine o_bs (l:=[i6,j0,j8]) (vs:=[it i6,it j0,it j8]) k1 ⟨ri,⟨ri,⟨ri,trivial⟩⟩⟩ rfl rfl rfl ⟨rfl,rfl,⟨rfl,rfl,⟨rfl,rfl,trivial⟩⟩⟩ rfl elk37 rfl rfl rfl fun _ _ _ _ k2 k3=>nf ?_
 obtain ⟨_,_,k4,k5,k6⟩:=Inv.lend k3 0 rfl k2
 refine obk p fun _ k7 p=>?_
 refine ca okf119 rfl (rvi (c119 k4 k5 k7) fun _ _ k8 k9=>?_)
 obtain ⟨m0,m1,m2⟩:=k6 _ _ _ k8 k9
 refine nf ?_
 cases p
 exact o_p 1 rfl (o_nil (⟨m0,(k0.t m1),(m2.del 0),hx rfl⟩))
 refine o_p 1 rfl (ld j4 (PtrTo.mono ((((((((a4.t a9).t b7).t e2).t e9).t f3).t g6).t i8).t j3) (PtrTo.fld a2 17 rfl rfl)) rfl fun _ j8=>?_)
 obtain rfl:=j8.int
 refine o_p 3 rfl (obk p fun j9 k0 p=>?_)
 refine ca okf120 rfl (rvi (c120 j4 (RepV.ofBool _ _) (RepV.ofInt _ _) k0) fun _ _ k1 k2=>?_)
 refine nf ?_
 refine o_bs (l:=[i6,j0,j9]) (vs:=[it i6,it j0,it j9]) k2 ⟨ri,⟨ri,⟨ri,trivial⟩⟩⟩ rfl rfl rfl ⟨rfl,rfl,⟨rfl,rfl,⟨rfl,rfl,trivial⟩⟩⟩ rfl elk37 rfl rfl rfl fun _ _ _ _ k3 k4=>nf ?_
 obtain ⟨_,_,k5,k6,k7⟩:=Inv.lend k4 0 rfl k3
 refine obk p fun _ k8 p=>?_
 refine ca okf119 rfl (rvi (c119 k5 k6 k8) fun _ _ k9 m0=>?_)
 obtain ⟨m1,m2,m3⟩:=k7 _ _ _ k9 m0
 refine nf ?_
 cases p
 exact o_p 1 rfl (o_nil (⟨m1,(k1.t m2),(m3.del 0),hx rfl⟩))
 rintro s _ ⟨j7,j8,j9,_,rfl⟩
 cases p
 exact nx (rt (Rt.mk ((((((((((a0.t a4).t a9).t b7).t e2).t e9).t f3).t g6).t i8).t j3).t j8) ((j9.del 1).del 0) ri))
theorem c116 {v0 : Value} {d0 : Protocol} (I : Inv w G S) (hL : Laid 0 G) {r : Int} (h0 : RepV G v0 d0) (p : p_Validate d0 = some r) :
 Calls Tryz.prog 116 #[v0] w (RV (Rt G S r)) := by
 have a:=h0
 obtain ⟨b,c,d,f,g,h,i,rfl,j,k,l,m,n,o,t⟩:=Protocol.unp h0
 refine nt (n:=157) 2 [_] (h:=rfl) (res1 rfl) fun _=>sg (o_box I rfl rfl rfl (cs:=[.string d0.name,it d0.topology,b,c,d,it d0.fault,f,g,h,i]) rfl fun u _ v=>nf (o_p 1 rfl (en (sg (o_p 1 rfl (lt v 0 rfl (o_p 2 rfl (en (sg (o_p 1 rfl (lt v 0 rfl ?_)))))))))))
 obtain ⟨x,y,rfl,_⟩:=j.slice
 refine o_p 2 rfl (en (sq (wpC_block (sg (o_p 1 rfl (lt v 0 rfl (obk p fun _ z p=>ca okf117 rfl (rvb (c117 v hL (RepV.ofStr _ _) z) fun _ A B C=>nf (o_p 2 rfl (en (cd p rfl (fun p=>?_) fun p=>?_)))))))))))
 cases p
 exact pg rfl (rt (br (pr (Rt.mk B (C.del 0) ri))))
 refine sg (o_p 1 rfl (lt C 0 rfl (o_p 2 rfl (obk p fun D F p=>oq (fun s w=>Inv w A ([(u,blk [.string d0.name,it d0.topology,(.slice x d0.states.length y),c,d,it d0.fault,f,g,h,i] 27)]::S)∧Hx s [(1,pt u),(3,.bool (d0.topology == 1)),(4,it (d0.states.length : Int)),(22,.bool D)]) ?_ ?_))))
 replace p:=F
 refine sp 26 p rfl (fun p=>?_) fun p=>?_
 cases p
 exact o_p 15 rfl (o_nil (⟨C,hx rfl⟩))
 refine o_p 1 rfl (lt C 0 rfl (o_p 3 rfl (sp 31 p rfl (fun p=>?_) fun p=>?_)))
 cases p
 exact o_p 10 rfl (o_nil (⟨C,hx rfl⟩))
 refine o_p 1 rfl (lt C 0 rfl (o_p 3 rfl (sp 36 p rfl (fun p=>?_) fun p=>?_)))
 cases p
 exact o_p 5 rfl (o_nil (⟨C,hx rfl⟩))
 refine o_p 1 rfl (lt C 0 rfl ?_)
 cases p
 exact o_p 3 rfl (o_nil (⟨C,hx rfl⟩))
 rintro s _ ⟨H,_,rfl⟩
 refine nx (cd p rfl (fun p=>?_) fun p=>?_)
 cases p
 exact pg rfl (rt (br (pr (Rt.mk B (H.del 0) ri))))
 refine pg rfl (cd p rfl (fun p=>?_) fun p=>?_)
 cases p
 exact pg rfl (rt (br (pr (Rt.mk B (H.del 0) ri))))
 refine sg (o_p 3 rfl (obk p fun J K p=>oq (fun s w=>Inv w A ([(u,blk [.string d0.name,it d0.topology,(.slice x d0.states.length y),c,d,it d0.fault,f,g,h,i] 27)]::S)∧Hx s [(1,pt u),(3,.bool (d0.topology == 1)),(4,it (d0.states.length : Int)),(44,.bool J)]) ?_ ?_))
 replace p:=K
 refine sp 47 p rfl (fun p=>?_) fun p=>?_
 cases p
 exact o_p 24 rfl (o_nil (⟨H,hx rfl⟩))
 refine o_p 1 rfl (lt H 0 rfl ?_)
 obtain ⟨_,_,rfl,_⟩:=k.slice
 refine o_p 4 rfl (sp 53 p rfl (fun p=>?_) fun p=>?_)
 cases p
 exact o_p 18 rfl (o_nil (⟨H,hx rfl⟩))
 refine o_p 1 rfl (lt H 0 rfl ?_)
 obtain ⟨_,_,rfl,_⟩:=l.slice
 refine o_p 4 rfl (sp 59 p rfl (fun p=>?_) fun p=>?_)
 cases p
 exact o_p 12 rfl (o_nil (⟨H,hx rfl⟩))
 refine o_p 1 rfl (lt H 0 rfl ?_)
 obtain ⟨_,_,rfl,_⟩:=m.slice
 refine o_p 4 rfl (sp 65 p rfl (fun p=>?_) fun p=>?_)
 cases p
 exact o_p 6 rfl (o_nil (⟨H,hx rfl⟩))
 refine o_p 1 rfl (lt H 0 rfl ?_)
 obtain ⟨_,_,rfl,_⟩:=t.slice
 cases p
 exact o_p 4 rfl (o_nil (⟨H,hx rfl⟩))
 rintro s _ ⟨M,_,rfl⟩
 refine nx (cd p rfl (fun p=>?_) fun p=>?_)
 cases p
 exact pg rfl (rt (br (pr (Rt.mk B (M.del 0) ri))))
 refine wpC_skip (bn (nx (sq (sg (lta M 0 rfl (cs:=[.string d0.name,it d0.topology,(.slice x d0.states.length y),c,d,it d0.fault,f,g,h,i]) rfl (obk p fun _ N p=>ca okf173 rfl (rvi (c173 M (Laid.mono B hL) (a.m B) N) fun _ O P Q=>nf (o_p 1 rfl (en (pg rfl (cd p rfl (fun p=>?_) fun p=>?_)))))))))))
 cases p
 exact pg rfl (rt (pr (Rt.mk (B.t P) (Q.del 0) ri)))
 refine sn (sq (sg (o_p 3 rfl (obk p fun R T p=>oq (fun s w=>Inv w O ([(u,blk [.string d0.name,it d0.topology,(.slice x d0.states.length y),c,d,it d0.fault,f,g,h,i] 27)]::S)∧Hx s [(1,pt u),(4,it (d0.states.length : Int)),(109,.bool R)]) ?_ ?_))))
 replace p:=T
 refine sp 78 p rfl (fun p=>?_) fun p=>?_
 refine o_p 1 rfl (lt Q 0 rfl ?_)
 obtain ⟨_,_,rfl,_⟩:=k.slice
 refine o_p 3 rfl (sp 83 p rfl (fun p=>?_) fun p=>?_)
 cases p
 exact o_p 26 rfl (o_nil (⟨Q,hx rfl⟩))
 refine o_p 1 rfl (lt Q 0 rfl ?_)
 obtain ⟨_,_,rfl,_⟩:=l.slice
 refine o_p 4 rfl (sp 89 p rfl (fun p=>?_) fun p=>?_)
 cases p
 exact o_p 20 rfl (o_nil (⟨Q,hx rfl⟩))
 refine o_p 1 rfl (lt Q 0 rfl ?_)
 obtain ⟨_,_,rfl,_⟩:=m.slice
 refine o_p 4 rfl (sp 95 p rfl (fun p=>?_) fun p=>?_)
 cases p
 exact o_p 14 rfl (o_nil (⟨Q,hx rfl⟩))
 refine o_p 1 rfl (lt Q 0 rfl (o_p 4 rfl (sp 101 p rfl (fun p=>?_) fun p=>?_)))
 cases p
 exact o_p 8 rfl (o_nil (⟨Q,hx rfl⟩))
 refine o_p 2 rfl (sp 103 p rfl (fun p=>?_) fun p=>?_)
 refine o_p 1 rfl (lt Q 0 rfl ?_)
 obtain ⟨_,_,rfl,_⟩:=o.slice
 cases p
 exact o_p 4 rfl (o_nil (⟨Q,hx rfl⟩))
 cases p
 exact o_p 6 rfl (o_nil (⟨Q,hx rfl⟩))
 refine o_p 25 rfl (sp 103 p rfl (fun p=>?_) fun p=>?_)
 refine o_p 1 rfl (lt Q 0 rfl ?_)
 obtain ⟨_,_,rfl,_⟩:=o.slice
 cases p
 exact o_p 4 rfl (o_nil (⟨Q,hx rfl⟩))
 cases p
 exact o_p 6 rfl (o_nil (⟨Q,hx rfl⟩))
 rintro s _ ⟨U,_,rfl⟩
 refine nx (cd p rfl (fun p=>?_) fun p=>?_)
 cases p
 exact pg rfl (rt (pr (Rt.mk (B.t P) (U.del 0) ri)))
 refine sn (sq (sg (o_p 1 rfl (lt U 0 rfl ?_))))
 obtain ⟨V,W,rfl,_⟩:=m.slice
 refine o_p 2 rfl (en (obk p fun X Y p=>cq (fun s w=>∃ Z : Unit,∃ a0,X = .inl Z∧Le O a0∧Inv w a0 ([(u,blk [.string d0.name,it d0.topology,(.slice x d0.states.length y),c,d,it d0.fault,(.slice V d0.resilience.length W),g,h,i] 27)]::S)∧Hx s [(1,pt u),(4,it (d0.states.length : Int))]) ?_ ?_))
 have a1:=p
 refine bk (fun (a2 : Int) s w=>∃ a3,Le O a3∧Inv w a3 ([(u,blk [.string d0.name,it d0.topology,(.slice x d0.states.length y),c,d,it d0.fault,(.slice V d0.resilience.length W),g,h,i] 27)]::S)∧Hx s [(1,pt u),(4,it (d0.states.length : Int)),(111,(.slice V d0.resilience.length W)),(112,it (d0.resilience.length : Int)),(113,it a2)]) Y ⟨O,lr,U,hx rfl⟩ ?_
 clear Y
 rintro a2 _ s _ p ⟨a3,a4,a5,_,rfl⟩
 refine pg rfl (sq (cd p rfl (fun p=>?_) fun p=>?_))
 refine sn (sq (wpC_block (sg (obk p fun a6 a7 p=>o_ix (m.m ((B.t P).t a4)).slice a7 rfl rfl rfl rfl rfl rfl rfl rfl (fun _ a8=>ld a5 a8 rfl fun _ a9=>?_) rfl))))
 have b0:=a9
 obtain rfl:=Linear.unp a9
 refine o_alloc a5 rfl rfl rfl zero266 fun _ _ b1=>nf (st b1 0 rfl rfl (cs:=[it a6.c,it a6.n,it a6.t,it a6.f]) rfl rfl rfl fun _ b2=>nf (en (sg (lta b2 0 rfl (cs:=[it a6.c,it a6.n,it a6.t,it a6.f]) rfl (obk p fun _ b3 p=>ca okf174 rfl (rvb (c174 b2 b0 b3) fun _ b4 b5 b6=>nf (o_p 1 rfl (en (cd p rfl (fun p=>?_) fun p=>?_)))))))))
 refine pg rfl (rt (br (pr ?_)))
 cases p
 refine ⟨_,rfl,?_⟩
 rintro rfl
 have p:=a1
 cases p
 exact br (pr (pr (Rt.mk (((B.t P).t a4).t b5) ((b6.del 1).del 0) ri)))
 refine wpC_skip ?_
 cases p
 exact bn (nx (rg (o_p 2 rfl (o_nil (nx ⟨_,rfl,⟨b4,(a4.t b5),(b6.del 0),hx rfl⟩⟩)))))
 refine ex (px ?_)
 cases p
 refine ⟨_,rfl,?_⟩
 rintro rfl
 exact bh (nx (⟨_,a3,rfl,a4,a5,hx rfl⟩))
 rintro s _ ⟨Z,a0,rfl,a1,a2,_,rfl⟩
 refine nx (sq (sq (wpC_drawI hmTryz a2 (Cl a0 ([(u,blk [.string d0.name,it d0.topology,(.slice x d0.states.length y),c,d,it d0.fault,(.slice V d0.resilience.length W),g,h,i] 27)]::S)) [(0,.any),(1,.here),(2,.any),(4,.any),(5,.far),(6,.any),(7,.any),(9,.any),(10,.far),(11,.any),(3,.eff true),(8,.eff true),(12,.eff false),(13,.eff false),(14,.eff false),(15,.any)] (by kernel_rfl) fun _ a3=>o_p 1 rfl (lt a3 0 rfl (o_p 2 rfl ?_)))))
 refine o_ltF (Cl.le a3 lr) (.S 0 rfl) rfl rfl rfl rfl rfl rfl ?_
 obtain ⟨a4,a5,rfl,_⟩:=n.slice
 refine o_p 3 rfl ?_
 refine o_ltF (Cl.le a3 lr) (.S 0 rfl) rfl rfl rfl rfl rfl rfl (o_p 1 rfl (obk p fun a6 a7 p=>ca okf118 rfl (rvi (c118 a3 (n.m ((B.t P).t a1)) (RepV.ofInt _ _) a7) fun _ _ a8 a9=>⟨fun _=>Cl.le a9 a8,obk p fun b0 b1 p=>ca okf120 rfl (rvi (c120 a9 (RepV.ofBool _ _) (RepV.ofInt _ _) b1) fun _ _ b2 b3=>⟨fun _=>Cl.le b3 (a8.t b2),obk p fun b4 b5 p=>ca okf118 rfl (rvi (c118 b3 (o.m ((((B.t P).t a1).t a8).t b2)) (RepV.ofInt _ _) b5) fun _ _ b6 b7=>nf (o_bs (l:=[a6,b0,b4]) (vs:=[it a6,it b0,it b4]) b7 ⟨ri,⟨ri,⟨ri,trivial⟩⟩⟩ rfl rfl rfl ⟨rfl,rfl,⟨rfl,rfl,⟨rfl,rfl,trivial⟩⟩⟩ rfl elk37 rfl rfl rfl fun b8 _ b9 _ e0 e1=>nf ?_))⟩)⟩)))
 obtain ⟨_,_,e2,e3,e4⟩:=Inv.lend e1 0 rfl e0
 refine obk p fun _ e5 p=>ca okf119 rfl (rvi (c119 e2 e3 e5) fun _ _ e6 e7=>?_)
 obtain ⟨e8,e9,f0⟩:=e4 _ _ _ e6 e7
 refine nf (o_p 1 rfl (en (pg rfl (cd p rfl (fun p=>?_) fun p=>?_))))
 cases p
 exact pg rfl (rt (pr (Rt.mk ((((((B.t P).t a1).t a8).t b2).t b6).t e9) ((f0.del 1).del 0) ri)))
 refine sn (sq (sg (o_p 1 rfl (lt f0 1 rfl ?_))))
 obtain ⟨f1,f2,rfl,_⟩:=t.slice
 refine o_p 2 rfl (en (obk p fun f3 f4 p=>cq (fun s w=>∃ f5 : Unit,∃ f6,f3 = .inl f5∧Le e8 f6∧Inv w f6 ([(b8,blk b9 37)]::[(u,blk [.string d0.name,it d0.topology,(.slice x d0.states.length y),c,d,it d0.fault,(.slice V d0.resilience.length W),(.slice a4 d0.initial.length a5),h,(.slice f1 d0.rules.length f2)] 27)]::S)∧Hx s [(1,pt u)]) ?_ ?_))
 have f7:=p
 refine bk (fun (f8 : Int) s w=>∃ f9,Le e8 f9∧Inv w f9 ([(b8,blk b9 37)]::[(u,blk [.string d0.name,it d0.topology,(.slice x d0.states.length y),c,d,it d0.fault,(.slice V d0.resilience.length W),(.slice a4 d0.initial.length a5),h,(.slice f1 d0.rules.length f2)] 27)]::S)∧Hx s [(1,pt u),(141,it (d0.rules.length : Int)),(142,it f8)]) f4 ⟨e8,lr,f0,hx rfl⟩ ?_
 clear f4
 rintro f8 _ s _ p ⟨f9,g0,g1,_,rfl⟩
 refine pg rfl (sq (cd p rfl (fun p=>?_) fun p=>?_))
 refine sn (sq (wpC_block (pg rfl (sg (lta g1 1 rfl (cs:=[.string d0.name,it d0.topology,(.slice x d0.states.length y),c,d,it d0.fault,(.slice V d0.resilience.length W),(.slice a4 d0.initial.length a5),h,(.slice f1 d0.rules.length f2)]) rfl (o_p 1 rfl (obk p fun _ g2 p=>ca okf175 rfl (rvi (c175 g1 (Laid.mono (((((((B.t P).t a1).t a8).t b2).t b6).t e9).t g0) hL) (a.m (((((((B.t P).t a1).t a8).t b2).t b6).t e9).t g0)) (RepV.ofInt _ _) g2) fun _ g3 g4 g5=>nf (o_p 1 rfl (en (pg rfl (cd p rfl (fun p=>?_) fun p=>?_))))))))))))
 refine pg rfl (rt (br (pr ?_)))
 cases p
 refine ⟨_,rfl,?_⟩
 rintro rfl
 have p:=f7
 cases p
 exact br (pr (pr (Rt.mk ((((((((B.t P).t a1).t a8).t b2).t b6).t e9).t g0).t g4) ((g5.del 1).del 0) ri)))
 refine wpC_skip ?_
 cases p
 exact bn (nx (rg (o_p 2 rfl (o_nil (nx ⟨_,rfl,⟨g3,(g0.t g4),g5,hx rfl⟩⟩)))))
 refine ex (px ?_)
 cases p
 refine ⟨_,rfl,?_⟩
 rintro rfl
 exact bh (nx (⟨_,f9,rfl,g0,g1,hx rfl⟩))
 rintro s _ ⟨f5,f6,rfl,f7,f8,_,rfl⟩
 refine nx (sg (lta f8 1 rfl (cs:=[.string d0.name,it d0.topology,(.slice x d0.states.length y),c,d,it d0.fault,(.slice V d0.resilience.length W),(.slice a4 d0.initial.length a5),h,(.slice f1 d0.rules.length f2)]) rfl (obk p fun _ f9 p=>ca okf176 rfl (rv (c176 f8 (a.m (((((((B.t P).t a1).t a8).t b2).t b6).t e9).t f7)) f9) fun _ _ _ g0 g1 g2=>nf ?_))))
 obtain ⟨_,_,rfl,_⟩:=g2.slice
 refine o_p 2 rfl (obk p fun _ g3 p=>ca okf120 rfl (rvi (c120 g1 (RepV.ofBool _ _) (RepV.ofInt _ _) g3) fun _ _ g4 g5=>nf ?_))
 cases p
 exact o_p 1 rfl (en (rt (Rt.mk (((((((((B.t P).t a1).t a8).t b2).t b6).t e9).t f7).t g0).t g4) ((g5.del 1).del 0) ri)))
theorem c67 {v0 : Value} {d0 : Protocol} (I : Inv w G S) (hL : Laid 0 G) {r : Classes × Int} (h0 : RepV G v0 d0) (p : p_Classify d0 = some r) :
 Calls Tryz.prog 67 #[v0] w (RV (Rt2 G S r)) := by
 have a:=h0
 obtain ⟨b,c,d,f,g,h,i,rfl,j,k,l,m,_,_,n⟩:=Protocol.unp h0
 refine enterM (n:=112) (fun s w v=>∃ x,RdC Tryz.prog 2 118 s w x∧v = .tuple #[x,s 3]) [_] Tryz.func67 rfl rfl rfl (resCT rfl) fun _=>?_
 refine sg ?_
 refine o_box I rfl rfl rfl (cs:=[.string d0.name,it d0.topology,b,c,d,it d0.fault,f,g,h,i]) rfl fun o _ t=>nf ?_
 refine o_alloc t rfl rfl rfl zero118 fun u _ y=>nf ?_
 refine o_p 1 rfl (en (sq (sg (lta y 1 rfl (cs:=[.string d0.name,it d0.topology,b,c,d,it d0.fault,f,g,h,i]) rfl (obk p fun _ z p=>?_)))))
 refine ca okf116 rfl (rvi (c116 y hL a z) fun _ A B C=>?_)
 refine nf (o_p 1 rfl (en (pg rfl (cd p rfl (fun p=>?_) fun p=>?_))))
 refine sg ?_
 refine o_bld (cs:=[]) (res:=[.bool false,.bool false,.bool false,.bool false,.bool false]) rfl rfl rfl zero118 (by exact trivial) rfl rfl rfl ?_ rfl
 refine o_p 1 rfl ?_
 refine st C 0 rfl rfl (cs:=[.bool false,.bool false,.bool false,.bool false,.bool false]) rfl rfl rfl fun _ D=>nf ?_
 cases p
 exact o_p 1 rfl (en (rt (pr (⟨_,⟨_,RdC.mk D (.S 0 rfl) rfl rfl,rfl⟩,Rt2.mk B ((D.del 1).del 0) (Classes.pk (⟨false,false,false,false,false⟩ : Classes)) ri⟩))))
 refine sn (pg rfl (sq (sg (o_p 1 rfl (lt C 1 rfl ?_)))))
 obtain ⟨D,F,rfl,_⟩:=n.slice
 refine o_p 2 rfl (en (obk p fun H J p=>?_))
 refine cq (fun s w=>Inv w A ([(u,blk [.bool false,.bool false,.bool false,.bool false,.bool false] 118)]::[(o,blk [.string d0.name,it d0.topology,b,c,d,it d0.fault,f,g,h,(.slice D d0.rules.length F)] 27)]::S)∧Hx s [(1,pt o),(2,pt u),(5,.bool H.1),(6,.bool H.2)]) ?_ ?_
 have _:=p
 refine bk (fun (K : Bool × Bool × Int) s w=>Inv w A ([(u,blk [.bool false,.bool false,.bool false,.bool false,.bool false] 118)]::[(o,blk [.string d0.name,it d0.topology,b,c,d,it d0.fault,f,g,h,(.slice D d0.rules.length F)] 27)]::S)∧Hx s [(1,pt o),(2,pt u),(5,.bool K.1),(6,.bool K.2.1),(18,(.slice D d0.rules.length F)),(19,it (d0.rules.length : Int)),(20,it K.2.2)]) J ⟨C,hx rfl⟩ ?_
 clear J
 rintro K _ s _ p ⟨M,_,rfl⟩
 refine pg rfl (sq (cd p rfl (fun p=>?_) fun p=>?_))
 refine sn (sq ?_)
 refine wpC_block ?_
 refine sg (obk p fun N O p=>?_)
 refine o_ix (n.m B).slice O rfl rfl rfl rfl rfl rfl rfl rfl (fun _ P=>?_) rfl
 refine ld M P rfl fun _ Q=>?_
 have _:=Q
 obtain ⟨R,T,U,V,W,X,Y,Z,rfl,a0,a1,a2,a3,a4,a5,a6,a7⟩:=Rule.unp Q
 refine o_alloc M rfl rfl rfl zero93 fun a8 _ a9=>nf ?_
 refine st a9 0 rfl rfl (cs:=[.string N.name,it N.kind,it N.frm,it N.to,it N.partnerFrom,it N.partnerTo,R,T,U,V,it N.read,it N.write,W,it N.at_,X,Y,Z,it N.direction]) rfl (allc rfl (allc rfl (allc rfl (allc rfl (allc rfl (allc rfl (allc (RepV.one1 a0 rfl) (allc (RepV.one1 a1 rfl) (allc (RepV.one1 a2 rfl) (allc (RepV.one1 a3 rfl) (allc rfl (allc rfl (allc (RepV.one1 a4 rfl) (allc rfl (allc (RepV.one1 a5 rfl) (allc (RepV.one1 a6 rfl) (allc (RepV.one1 a7 rfl) (allc rfl rfl)))))))))))))))))) rfl fun _ b0=>nf ?_
 refine en (sg (o_p 2 rfl (obk p fun b1 b2 p=>?_)))
 refine oq (fun s w=>Inv w A ([(a8,blk [.string N.name,it N.kind,it N.frm,it N.to,it N.partnerFrom,it N.partnerTo,R,T,U,V,it N.read,it N.write,W,it N.at_,X,Y,Z,it N.direction] 93)]::[(u,blk [.bool false,.bool false,.bool false,.bool false,.bool false] 118)]::[(o,blk [.string d0.name,it d0.topology,b,c,d,it d0.fault,f,g,h,(.slice D d0.rules.length F)] 27)]::S)∧Hx s [(1,pt o),(2,pt u),(5,.bool b1),(6,.bool K.2.1),(8,pt a8),(18,(.slice D d0.rules.length F)),(19,it (d0.rules.length : Int)),(20,it K.2.2)]) ?_ ?_
 replace p:=b2
 refine sp 25 p rfl (fun p=>?_) fun p=>?_
 refine o_p 1 rfl (lt b0 0 rfl (o_p 3 rfl (sp 30 p rfl (fun p=>?_) fun p=>?_)))
 refine o_p 1 rfl (lt b0 0 rfl (o_p 1 rfl (lt b0 0 rfl (o_p 3 rfl (sp 37 p rfl (fun p=>?_) fun p=>?_)))))
 refine o_p 1 rfl (lt b0 0 rfl ?_)
 obtain ⟨_,_,rfl,_⟩:=a2.slice
 refine o_p 4 rfl (sp 43 p rfl (fun p=>?_) fun p=>?_)
 refine o_p 1 rfl (lt b0 0 rfl ?_)
 obtain ⟨_,_,rfl,_⟩:=a3.slice
 cases p
 exact o_p 4 rfl (o_nil (⟨b0,hx rfl⟩))
 cases p
 exact o_p 6 rfl (o_nil (⟨b0,hx rfl⟩))
 cases p
 exact o_p 12 rfl (o_nil (⟨b0,hx rfl⟩))
 cases p
 exact o_p 19 rfl (o_nil (⟨b0,hx rfl⟩))
 cases p
 exact o_p 24 rfl (o_nil (⟨b0,hx rfl⟩))
 rintro s _ ⟨b3,_,rfl⟩
 refine nx (rg (o_p 2 rfl (obk p fun b4 b5 p=>?_)))
 refine oq (fun s w=>Inv w A ([(a8,blk [.string N.name,it N.kind,it N.frm,it N.to,it N.partnerFrom,it N.partnerTo,R,T,U,V,it N.read,it N.write,W,it N.at_,X,Y,Z,it N.direction] 93)]::[(u,blk [.bool false,.bool false,.bool false,.bool false,.bool false] 118)]::[(o,blk [.string d0.name,it d0.topology,b,c,d,it d0.fault,f,g,h,(.slice D d0.rules.length F)] 27)]::S)∧Hx s [(1,pt o),(2,pt u),(5,.bool b1),(6,.bool b4),(18,(.slice D d0.rules.length F)),(19,it (d0.rules.length : Int)),(20,it K.2.2)]) ?_ ?_
 replace p:=b5
 refine sp 50 p rfl (fun p=>?_) fun p=>?_
 cases p
 exact o_p 6 rfl (o_nil (⟨b3,hx rfl⟩))
 refine o_p 1 rfl (lt b3 0 rfl ?_)
 obtain ⟨_,_,rfl,_⟩:=a3.slice
 cases p
 exact o_p 4 rfl (o_nil (⟨b3,hx rfl⟩))
 rintro s _ ⟨b6,_,rfl⟩
 cases p
 exact bn (nx (rg (o_p 2 rfl (o_nil (nx ⟨_,rfl,⟨(b6.del 0),hx rfl⟩⟩)))))
 refine ex (px ?_)
 cases p
 refine ⟨_,rfl,?_⟩
 rintro rfl
 exact bh (nx (⟨M,hx rfl⟩))
 rintro s _ ⟨K,_,rfl⟩
 refine nx (sg (o_p 1 rfl (lt K 1 rfl (o_p 2 rfl (en (sg (o_p 2 rfl (obk p fun M N p=>?_))))))))
 refine oq (fun s w=>Inv w A ([(u,blk [.bool false,.bool false,.bool false,.bool false,.bool false] 118)]::[(o,blk [.string d0.name,it d0.topology,b,c,d,it d0.fault,f,g,h,(.slice D d0.rules.length F)] 27)]::S)∧Hx s [(1,pt o),(2,pt u),(5,.bool H.1),(6,.bool H.2),(9,.bool (d0.topology == 1)),(10,.bool M)]) ?_ ?_
 replace p:=N
 refine sp 61 p rfl (fun p=>?_) fun p=>?_
 refine o_p 1 rfl (lt K 1 rfl (o_p 3 rfl (sp 66 p rfl (fun p=>?_) fun p=>?_)))
 refine o_p 1 rfl (lt K 1 rfl ?_)
 obtain ⟨_,_,rfl,_⟩:=k.slice
 refine o_p 4 rfl (sp 72 p rfl (fun p=>?_) fun p=>?_)
 refine o_p 1 rfl (lt K 1 rfl ?_)
 obtain ⟨_,_,rfl,_⟩:=m.slice
 cases p
 exact o_p 4 rfl (o_nil (⟨K,hx rfl⟩))
 cases p
 exact o_p 6 rfl (o_nil (⟨K,hx rfl⟩))
 cases p
 exact o_p 12 rfl (o_nil (⟨K,hx rfl⟩))
 cases p
 exact o_p 17 rfl (o_nil (⟨K,hx rfl⟩))
 rintro s _ ⟨O,_,rfl⟩
 refine nx (sg (o_p 2 rfl (obk p fun P Q p=>?_)))
 refine oq (fun s w=>Inv w A ([(u,blk [.bool P.2.1,.bool P.2.2.1,.bool P.2.2.2.1,.bool P.2.2.2.2.1,.bool P.2.2.2.2.2] 118)]::[(o,blk [.string d0.name,it d0.topology,b,c,d,it d0.fault,f,g,h,(.slice D d0.rules.length F)] 27)]::S)∧Hx s [(2,pt u),(3,it P.1)]) ?_ ?_
 replace p:=Q
 refine sp 79 p rfl (fun p=>?_) fun p=>?_
 refine o_p 1 rfl (lt O 1 rfl ?_)
 obtain ⟨_,_,rfl,_⟩:=l.slice
 refine o_p 4 rfl (sp 85 p rfl (fun p=>?_) fun p=>?_)
 refine o_p 4 rfl (sp 89 p rfl (fun p=>?_) fun p=>?_)
 refine o_p 4 rfl (lt O 1 rfl (o_p 2 rfl (sp 96 p rfl (fun p=>?_) fun p=>?_)))
 refine o_p 5 rfl (lt O 1 rfl (o_p 3 rfl (sp 105 p rfl (fun p=>?_) fun p=>?_)))
 refine o_p 1 rfl (lt O 1 rfl ?_)
 obtain ⟨_,_,rfl,_⟩:=j.slice
 refine o_p 3 rfl ?_
 refine o_bld (cs:=[(0,[.bool H.1]),(1,[.bool (!H.2)]),(2,[.bool true]),(3,[.bool (d0.topology == 4)]),(4,[.bool (decide ((d0.states.length : Int) ≤ 4))])]) (res:=[.bool H.1,.bool (!H.2),.bool true,.bool (d0.topology == 4),.bool (decide ((d0.states.length : Int) ≤ 4))]) rfl rfl rfl zero118 (by exact ⟨rfl,rfl,⟨rfl,rfl,⟨rfl,rfl,⟨rfl,rfl,⟨rfl,rfl,trivial⟩⟩⟩⟩⟩) rfl rfl rfl ?_ rfl
 refine st O 0 rfl rfl (cs:=[.bool H.1,.bool (!H.2),.bool true,.bool (d0.topology == 4),.bool (decide ((d0.states.length : Int) ≤ 4))]) rfl rfl rfl fun _ R=>nf ?_
 cases p
 exact o_p 1 rfl (o_nil (⟨R,hx rfl⟩))
 refine o_p 5 rfl ?_
 refine o_bld (cs:=[(0,[.bool H.1]),(1,[.bool (!H.2)]),(2,[.bool true]),(3,[.bool (d0.topology == 4)]),(4,[.bool false])]) (res:=[.bool H.1,.bool (!H.2),.bool true,.bool (d0.topology == 4),.bool false]) rfl rfl rfl zero118 (by exact ⟨rfl,rfl,⟨rfl,rfl,⟨rfl,rfl,⟨rfl,rfl,⟨rfl,rfl,trivial⟩⟩⟩⟩⟩) rfl rfl rfl ?_ rfl
 refine st O 0 rfl rfl (cs:=[.bool H.1,.bool (!H.2),.bool true,.bool (d0.topology == 4),.bool false]) rfl rfl rfl fun _ R=>nf ?_
 cases p
 exact o_p 1 rfl (o_nil (⟨R,hx rfl⟩))
 refine o_p 1 rfl (lt O 1 rfl (o_p 3 rfl (lt O 1 rfl (o_p 3 rfl (sp 105 p rfl (fun p=>?_) fun p=>?_)))))
 refine o_p 1 rfl (lt O 1 rfl ?_)
 obtain ⟨_,_,rfl,_⟩:=j.slice
 refine o_p 3 rfl ?_
 refine o_bld (cs:=[(0,[.bool H.1]),(1,[.bool (!H.2)]),(2,[.bool (d0.topology == 3)]),(3,[.bool (d0.topology == 4)]),(4,[.bool (decide ((d0.states.length : Int) ≤ 4))])]) (res:=[.bool H.1,.bool (!H.2),.bool (d0.topology == 3),.bool (d0.topology == 4),.bool (decide ((d0.states.length : Int) ≤ 4))]) rfl rfl rfl zero118 (by exact ⟨rfl,rfl,⟨rfl,rfl,⟨rfl,rfl,⟨rfl,rfl,⟨rfl,rfl,trivial⟩⟩⟩⟩⟩) rfl rfl rfl ?_ rfl
 refine st O 0 rfl rfl (cs:=[.bool H.1,.bool (!H.2),.bool (d0.topology == 3),.bool (d0.topology == 4),.bool (decide ((d0.states.length : Int) ≤ 4))]) rfl rfl rfl fun _ R=>nf ?_
 cases p
 exact o_p 1 rfl (o_nil (⟨R,hx rfl⟩))
 refine o_p 5 rfl ?_
 refine o_bld (cs:=[(0,[.bool H.1]),(1,[.bool (!H.2)]),(2,[.bool (d0.topology == 3)]),(3,[.bool (d0.topology == 4)]),(4,[.bool false])]) (res:=[.bool H.1,.bool (!H.2),.bool (d0.topology == 3),.bool (d0.topology == 4),.bool false]) rfl rfl rfl zero118 (by exact ⟨rfl,rfl,⟨rfl,rfl,⟨rfl,rfl,⟨rfl,rfl,⟨rfl,rfl,trivial⟩⟩⟩⟩⟩) rfl rfl rfl ?_ rfl
 refine st O 0 rfl rfl (cs:=[.bool H.1,.bool (!H.2),.bool (d0.topology == 3),.bool (d0.topology == 4),.bool false]) rfl rfl rfl fun _ R=>nf ?_
 cases p
 exact o_p 1 rfl (o_nil (⟨R,hx rfl⟩))
 refine o_p 4 rfl (lt O 1 rfl (o_p 2 rfl (sp 96 p rfl (fun p=>?_) fun p=>?_)))
 refine o_p 5 rfl (lt O 1 rfl (o_p 3 rfl (sp 105 p rfl (fun p=>?_) fun p=>?_)))
 refine o_p 1 rfl (lt O 1 rfl ?_)
 obtain ⟨_,_,rfl,_⟩:=j.slice
 refine o_p 3 rfl ?_
 refine o_bld (cs:=[(0,[.bool H.1]),(1,[.bool false]),(2,[.bool true]),(3,[.bool (d0.topology == 4)]),(4,[.bool (decide ((d0.states.length : Int) ≤ 4))])]) (res:=[.bool H.1,.bool false,.bool true,.bool (d0.topology == 4),.bool (decide ((d0.states.length : Int) ≤ 4))]) rfl rfl rfl zero118 (by exact ⟨rfl,rfl,⟨rfl,rfl,⟨rfl,rfl,⟨rfl,rfl,⟨rfl,rfl,trivial⟩⟩⟩⟩⟩) rfl rfl rfl ?_ rfl
 refine st O 0 rfl rfl (cs:=[.bool H.1,.bool false,.bool true,.bool (d0.topology == 4),.bool (decide ((d0.states.length : Int) ≤ 4))]) rfl rfl rfl fun _ R=>nf ?_
 cases p
 exact o_p 1 rfl (o_nil (⟨R,hx rfl⟩))
 refine o_p 5 rfl ?_
 refine o_bld (cs:=[(0,[.bool H.1]),(1,[.bool false]),(2,[.bool true]),(3,[.bool (d0.topology == 4)]),(4,[.bool false])]) (res:=[.bool H.1,.bool false,.bool true,.bool (d0.topology == 4),.bool false]) rfl rfl rfl zero118 (by exact ⟨rfl,rfl,⟨rfl,rfl,⟨rfl,rfl,⟨rfl,rfl,⟨rfl,rfl,trivial⟩⟩⟩⟩⟩) rfl rfl rfl ?_ rfl
 refine st O 0 rfl rfl (cs:=[.bool H.1,.bool false,.bool true,.bool (d0.topology == 4),.bool false]) rfl rfl rfl fun _ R=>nf ?_
 cases p
 exact o_p 1 rfl (o_nil (⟨R,hx rfl⟩))
 refine o_p 1 rfl (lt O 1 rfl (o_p 3 rfl (lt O 1 rfl (o_p 3 rfl (sp 105 p rfl (fun p=>?_) fun p=>?_)))))
 refine o_p 1 rfl (lt O 1 rfl ?_)
 obtain ⟨_,_,rfl,_⟩:=j.slice
 refine o_p 3 rfl ?_
 refine o_bld (cs:=[(0,[.bool H.1]),(1,[.bool false]),(2,[.bool (d0.topology == 3)]),(3,[.bool (d0.topology == 4)]),(4,[.bool (decide ((d0.states.length : Int) ≤ 4))])]) (res:=[.bool H.1,.bool false,.bool (d0.topology == 3),.bool (d0.topology == 4),.bool (decide ((d0.states.length : Int) ≤ 4))]) rfl rfl rfl zero118 (by exact ⟨rfl,rfl,⟨rfl,rfl,⟨rfl,rfl,⟨rfl,rfl,⟨rfl,rfl,trivial⟩⟩⟩⟩⟩) rfl rfl rfl ?_ rfl
 refine st O 0 rfl rfl (cs:=[.bool H.1,.bool false,.bool (d0.topology == 3),.bool (d0.topology == 4),.bool (decide ((d0.states.length : Int) ≤ 4))]) rfl rfl rfl fun _ R=>nf ?_
 cases p
 exact o_p 1 rfl (o_nil (⟨R,hx rfl⟩))
 refine o_p 5 rfl ?_
 refine o_bld (cs:=[(0,[.bool H.1]),(1,[.bool false]),(2,[.bool (d0.topology == 3)]),(3,[.bool (d0.topology == 4)]),(4,[.bool false])]) (res:=[.bool H.1,.bool false,.bool (d0.topology == 3),.bool (d0.topology == 4),.bool false]) rfl rfl rfl zero118 (by exact ⟨rfl,rfl,⟨rfl,rfl,⟨rfl,rfl,⟨rfl,rfl,⟨rfl,rfl,trivial⟩⟩⟩⟩⟩) rfl rfl rfl ?_ rfl
 refine st O 0 rfl rfl (cs:=[.bool H.1,.bool false,.bool (d0.topology == 3),.bool (d0.topology == 4),.bool false]) rfl rfl rfl fun _ R=>nf ?_
 cases p
 exact o_p 1 rfl (o_nil (⟨R,hx rfl⟩))
 refine o_p 4 rfl (sp 89 p rfl (fun p=>?_) fun p=>?_)
 refine o_p 4 rfl (lt O 1 rfl (o_p 2 rfl (sp 96 p rfl (fun p=>?_) fun p=>?_)))
 refine o_p 5 rfl (lt O 1 rfl (o_p 3 rfl (sp 105 p rfl (fun p=>?_) fun p=>?_)))
 refine o_p 1 rfl (lt O 1 rfl ?_)
 obtain ⟨_,_,rfl,_⟩:=j.slice
 refine o_p 3 rfl ?_
 refine o_bld (cs:=[(0,[.bool false]),(1,[.bool (!H.2)]),(2,[.bool true]),(3,[.bool (d0.topology == 4)]),(4,[.bool (decide ((d0.states.length : Int) ≤ 4))])]) (res:=[.bool false,.bool (!H.2),.bool true,.bool (d0.topology == 4),.bool (decide ((d0.states.length : Int) ≤ 4))]) rfl rfl rfl zero118 (by exact ⟨rfl,rfl,⟨rfl,rfl,⟨rfl,rfl,⟨rfl,rfl,⟨rfl,rfl,trivial⟩⟩⟩⟩⟩) rfl rfl rfl ?_ rfl
 refine st O 0 rfl rfl (cs:=[.bool false,.bool (!H.2),.bool true,.bool (d0.topology == 4),.bool (decide ((d0.states.length : Int) ≤ 4))]) rfl rfl rfl fun _ R=>nf ?_
 cases p
 exact o_p 1 rfl (o_nil (⟨R,hx rfl⟩))
 refine o_p 5 rfl ?_
 refine o_bld (cs:=[(0,[.bool false]),(1,[.bool (!H.2)]),(2,[.bool true]),(3,[.bool (d0.topology == 4)]),(4,[.bool false])]) (res:=[.bool false,.bool (!H.2),.bool true,.bool (d0.topology == 4),.bool false]) rfl rfl rfl zero118 (by exact ⟨rfl,rfl,⟨rfl,rfl,⟨rfl,rfl,⟨rfl,rfl,⟨rfl,rfl,trivial⟩⟩⟩⟩⟩) rfl rfl rfl ?_ rfl
 refine st O 0 rfl rfl (cs:=[.bool false,.bool (!H.2),.bool true,.bool (d0.topology == 4),.bool false]) rfl rfl rfl fun _ R=>nf ?_
 cases p
 exact o_p 1 rfl (o_nil (⟨R,hx rfl⟩))
 refine o_p 1 rfl (lt O 1 rfl (o_p 3 rfl (lt O 1 rfl (o_p 3 rfl (sp 105 p rfl (fun p=>?_) fun p=>?_)))))
 refine o_p 1 rfl (lt O 1 rfl ?_)
 obtain ⟨_,_,rfl,_⟩:=j.slice
 refine o_p 3 rfl ?_
 refine o_bld (cs:=[(0,[.bool false]),(1,[.bool (!H.2)]),(2,[.bool (d0.topology == 3)]),(3,[.bool (d0.topology == 4)]),(4,[.bool (decide ((d0.states.length : Int) ≤ 4))])]) (res:=[.bool false,.bool (!H.2),.bool (d0.topology == 3),.bool (d0.topology == 4),.bool (decide ((d0.states.length : Int) ≤ 4))]) rfl rfl rfl zero118 (by exact ⟨rfl,rfl,⟨rfl,rfl,⟨rfl,rfl,⟨rfl,rfl,⟨rfl,rfl,trivial⟩⟩⟩⟩⟩) rfl rfl rfl ?_ rfl
 refine st O 0 rfl rfl (cs:=[.bool false,.bool (!H.2),.bool (d0.topology == 3),.bool (d0.topology == 4),.bool (decide ((d0.states.length : Int) ≤ 4))]) rfl rfl rfl fun _ R=>nf ?_
 cases p
 exact o_p 1 rfl (o_nil (⟨R,hx rfl⟩))
 refine o_p 5 rfl ?_
 refine o_bld (cs:=[(0,[.bool false]),(1,[.bool (!H.2)]),(2,[.bool (d0.topology == 3)]),(3,[.bool (d0.topology == 4)]),(4,[.bool false])]) (res:=[.bool false,.bool (!H.2),.bool (d0.topology == 3),.bool (d0.topology == 4),.bool false]) rfl rfl rfl zero118 (by exact ⟨rfl,rfl,⟨rfl,rfl,⟨rfl,rfl,⟨rfl,rfl,⟨rfl,rfl,trivial⟩⟩⟩⟩⟩) rfl rfl rfl ?_ rfl
 refine st O 0 rfl rfl (cs:=[.bool false,.bool (!H.2),.bool (d0.topology == 3),.bool (d0.topology == 4),.bool false]) rfl rfl rfl fun _ R=>nf ?_
 cases p
 exact o_p 1 rfl (o_nil (⟨R,hx rfl⟩))
 refine o_p 4 rfl (lt O 1 rfl (o_p 2 rfl (sp 96 p rfl (fun p=>?_) fun p=>?_)))
 refine o_p 5 rfl (lt O 1 rfl (o_p 3 rfl (sp 105 p rfl (fun p=>?_) fun p=>?_)))
 refine o_p 1 rfl (lt O 1 rfl ?_)
 obtain ⟨_,_,rfl,_⟩:=j.slice
 refine o_p 3 rfl ?_
 refine o_bld (cs:=[(0,[.bool false]),(1,[.bool false]),(2,[.bool true]),(3,[.bool (d0.topology == 4)]),(4,[.bool (decide ((d0.states.length : Int) ≤ 4))])]) (res:=[.bool false,.bool false,.bool true,.bool (d0.topology == 4),.bool (decide ((d0.states.length : Int) ≤ 4))]) rfl rfl rfl zero118 (by exact ⟨rfl,rfl,⟨rfl,rfl,⟨rfl,rfl,⟨rfl,rfl,⟨rfl,rfl,trivial⟩⟩⟩⟩⟩) rfl rfl rfl ?_ rfl
 refine st O 0 rfl rfl (cs:=[.bool false,.bool false,.bool true,.bool (d0.topology == 4),.bool (decide ((d0.states.length : Int) ≤ 4))]) rfl rfl rfl fun _ R=>nf ?_
 cases p
 exact o_p 1 rfl (o_nil (⟨R,hx rfl⟩))
 refine o_p 5 rfl ?_
 refine o_bld (cs:=[(0,[.bool false]),(1,[.bool false]),(2,[.bool true]),(3,[.bool (d0.topology == 4)]),(4,[.bool false])]) (res:=[.bool false,.bool false,.bool true,.bool (d0.topology == 4),.bool false]) rfl rfl rfl zero118 (by exact ⟨rfl,rfl,⟨rfl,rfl,⟨rfl,rfl,⟨rfl,rfl,⟨rfl,rfl,trivial⟩⟩⟩⟩⟩) rfl rfl rfl ?_ rfl
 refine st O 0 rfl rfl (cs:=[.bool false,.bool false,.bool true,.bool (d0.topology == 4),.bool false]) rfl rfl rfl fun _ R=>nf ?_
 cases p
 exact o_p 1 rfl (o_nil (⟨R,hx rfl⟩))
 refine o_p 1 rfl (lt O 1 rfl (o_p 3 rfl (lt O 1 rfl (o_p 3 rfl (sp 105 p rfl (fun p=>?_) fun p=>?_)))))
 refine o_p 1 rfl (lt O 1 rfl ?_)
 obtain ⟨_,_,rfl,_⟩:=j.slice
 refine o_p 3 rfl ?_
 refine o_bld (cs:=[(0,[.bool false]),(1,[.bool false]),(2,[.bool (d0.topology == 3)]),(3,[.bool (d0.topology == 4)]),(4,[.bool (decide ((d0.states.length : Int) ≤ 4))])]) (res:=[.bool false,.bool false,.bool (d0.topology == 3),.bool (d0.topology == 4),.bool (decide ((d0.states.length : Int) ≤ 4))]) rfl rfl rfl zero118 (by exact ⟨rfl,rfl,⟨rfl,rfl,⟨rfl,rfl,⟨rfl,rfl,⟨rfl,rfl,trivial⟩⟩⟩⟩⟩) rfl rfl rfl ?_ rfl
 refine st O 0 rfl rfl (cs:=[.bool false,.bool false,.bool (d0.topology == 3),.bool (d0.topology == 4),.bool (decide ((d0.states.length : Int) ≤ 4))]) rfl rfl rfl fun _ R=>nf ?_
 cases p
 exact o_p 1 rfl (o_nil (⟨R,hx rfl⟩))
 refine o_p 5 rfl ?_
 refine o_bld (cs:=[(0,[.bool false]),(1,[.bool false]),(2,[.bool (d0.topology == 3)]),(3,[.bool (d0.topology == 4)]),(4,[.bool false])]) (res:=[.bool false,.bool false,.bool (d0.topology == 3),.bool (d0.topology == 4),.bool false]) rfl rfl rfl zero118 (by exact ⟨rfl,rfl,⟨rfl,rfl,⟨rfl,rfl,⟨rfl,rfl,⟨rfl,rfl,trivial⟩⟩⟩⟩⟩) rfl rfl rfl ?_ rfl
 refine st O 0 rfl rfl (cs:=[.bool false,.bool false,.bool (d0.topology == 3),.bool (d0.topology == 4),.bool false]) rfl rfl rfl fun _ R=>nf ?_
 cases p
 exact o_p 1 rfl (o_nil (⟨R,hx rfl⟩))
 refine o_p 10 rfl (sp 89 p rfl (fun p=>?_) fun p=>?_)
 refine o_p 4 rfl (lt O 1 rfl (o_p 2 rfl (sp 96 p rfl (fun p=>?_) fun p=>?_)))
 refine o_p 5 rfl (lt O 1 rfl (o_p 3 rfl (sp 105 p rfl (fun p=>?_) fun p=>?_)))
 refine o_p 1 rfl (lt O 1 rfl ?_)
 obtain ⟨_,_,rfl,_⟩:=j.slice
 refine o_p 3 rfl ?_
 refine o_bld (cs:=[(0,[.bool false]),(1,[.bool (!H.2)]),(2,[.bool true]),(3,[.bool (d0.topology == 4)]),(4,[.bool (decide ((d0.states.length : Int) ≤ 4))])]) (res:=[.bool false,.bool (!H.2),.bool true,.bool (d0.topology == 4),.bool (decide ((d0.states.length : Int) ≤ 4))]) rfl rfl rfl zero118 (by exact ⟨rfl,rfl,⟨rfl,rfl,⟨rfl,rfl,⟨rfl,rfl,⟨rfl,rfl,trivial⟩⟩⟩⟩⟩) rfl rfl rfl ?_ rfl
 refine st O 0 rfl rfl (cs:=[.bool false,.bool (!H.2),.bool true,.bool (d0.topology == 4),.bool (decide ((d0.states.length : Int) ≤ 4))]) rfl rfl rfl fun _ R=>nf ?_
 cases p
 exact o_p 1 rfl (o_nil (⟨R,hx rfl⟩))
 refine o_p 5 rfl ?_
 refine o_bld (cs:=[(0,[.bool false]),(1,[.bool (!H.2)]),(2,[.bool true]),(3,[.bool (d0.topology == 4)]),(4,[.bool false])]) (res:=[.bool false,.bool (!H.2),.bool true,.bool (d0.topology == 4),.bool false]) rfl rfl rfl zero118 (by exact ⟨rfl,rfl,⟨rfl,rfl,⟨rfl,rfl,⟨rfl,rfl,⟨rfl,rfl,trivial⟩⟩⟩⟩⟩) rfl rfl rfl ?_ rfl
 refine st O 0 rfl rfl (cs:=[.bool false,.bool (!H.2),.bool true,.bool (d0.topology == 4),.bool false]) rfl rfl rfl fun _ R=>nf ?_
 cases p
 exact o_p 1 rfl (o_nil (⟨R,hx rfl⟩))
 refine o_p 1 rfl (lt O 1 rfl (o_p 3 rfl (lt O 1 rfl (o_p 3 rfl (sp 105 p rfl (fun p=>?_) fun p=>?_)))))
 refine o_p 1 rfl (lt O 1 rfl ?_)
 obtain ⟨_,_,rfl,_⟩:=j.slice
 refine o_p 3 rfl ?_
 refine o_bld (cs:=[(0,[.bool false]),(1,[.bool (!H.2)]),(2,[.bool (d0.topology == 3)]),(3,[.bool (d0.topology == 4)]),(4,[.bool (decide ((d0.states.length : Int) ≤ 4))])]) (res:=[.bool false,.bool (!H.2),.bool (d0.topology == 3),.bool (d0.topology == 4),.bool (decide ((d0.states.length : Int) ≤ 4))]) rfl rfl rfl zero118 (by exact ⟨rfl,rfl,⟨rfl,rfl,⟨rfl,rfl,⟨rfl,rfl,⟨rfl,rfl,trivial⟩⟩⟩⟩⟩) rfl rfl rfl ?_ rfl
 refine st O 0 rfl rfl (cs:=[.bool false,.bool (!H.2),.bool (d0.topology == 3),.bool (d0.topology == 4),.bool (decide ((d0.states.length : Int) ≤ 4))]) rfl rfl rfl fun _ R=>nf ?_
 cases p
 exact o_p 1 rfl (o_nil (⟨R,hx rfl⟩))
 refine o_p 5 rfl ?_
 refine o_bld (cs:=[(0,[.bool false]),(1,[.bool (!H.2)]),(2,[.bool (d0.topology == 3)]),(3,[.bool (d0.topology == 4)]),(4,[.bool false])]) (res:=[.bool false,.bool (!H.2),.bool (d0.topology == 3),.bool (d0.topology == 4),.bool false]) rfl rfl rfl zero118 (by exact ⟨rfl,rfl,⟨rfl,rfl,⟨rfl,rfl,⟨rfl,rfl,⟨rfl,rfl,trivial⟩⟩⟩⟩⟩) rfl rfl rfl ?_ rfl
 refine st O 0 rfl rfl (cs:=[.bool false,.bool (!H.2),.bool (d0.topology == 3),.bool (d0.topology == 4),.bool false]) rfl rfl rfl fun _ R=>nf ?_
 cases p
 exact o_p 1 rfl (o_nil (⟨R,hx rfl⟩))
 refine o_p 4 rfl (lt O 1 rfl (o_p 2 rfl (sp 96 p rfl (fun p=>?_) fun p=>?_)))
 refine o_p 5 rfl (lt O 1 rfl (o_p 3 rfl (sp 105 p rfl (fun p=>?_) fun p=>?_)))
 refine o_p 1 rfl (lt O 1 rfl ?_)
 obtain ⟨_,_,rfl,_⟩:=j.slice
 refine o_p 3 rfl ?_
 refine o_bld (cs:=[(0,[.bool false]),(1,[.bool false]),(2,[.bool true]),(3,[.bool (d0.topology == 4)]),(4,[.bool (decide ((d0.states.length : Int) ≤ 4))])]) (res:=[.bool false,.bool false,.bool true,.bool (d0.topology == 4),.bool (decide ((d0.states.length : Int) ≤ 4))]) rfl rfl rfl zero118 (by exact ⟨rfl,rfl,⟨rfl,rfl,⟨rfl,rfl,⟨rfl,rfl,⟨rfl,rfl,trivial⟩⟩⟩⟩⟩) rfl rfl rfl ?_ rfl
 refine st O 0 rfl rfl (cs:=[.bool false,.bool false,.bool true,.bool (d0.topology == 4),.bool (decide ((d0.states.length : Int) ≤ 4))]) rfl rfl rfl fun _ R=>nf ?_
 cases p
 exact o_p 1 rfl (o_nil (⟨R,hx rfl⟩))
 refine o_p 5 rfl ?_
 refine o_bld (cs:=[(0,[.bool false]),(1,[.bool false]),(2,[.bool true]),(3,[.bool (d0.topology == 4)]),(4,[.bool false])]) (res:=[.bool false,.bool false,.bool true,.bool (d0.topology == 4),.bool false]) rfl rfl rfl zero118 (by exact ⟨rfl,rfl,⟨rfl,rfl,⟨rfl,rfl,⟨rfl,rfl,⟨rfl,rfl,trivial⟩⟩⟩⟩⟩) rfl rfl rfl ?_ rfl
 refine st O 0 rfl rfl (cs:=[.bool false,.bool false,.bool true,.bool (d0.topology == 4),.bool false]) rfl rfl rfl fun _ R=>nf ?_
 cases p
 exact o_p 1 rfl (o_nil (⟨R,hx rfl⟩))
 refine o_p 1 rfl (lt O 1 rfl (o_p 3 rfl (lt O 1 rfl (o_p 3 rfl (sp 105 p rfl (fun p=>?_) fun p=>?_)))))
 refine o_p 1 rfl (lt O 1 rfl ?_)
 obtain ⟨_,_,rfl,_⟩:=j.slice
 refine o_p 3 rfl ?_
 refine o_bld (cs:=[(0,[.bool false]),(1,[.bool false]),(2,[.bool (d0.topology == 3)]),(3,[.bool (d0.topology == 4)]),(4,[.bool (decide ((d0.states.length : Int) ≤ 4))])]) (res:=[.bool false,.bool false,.bool (d0.topology == 3),.bool (d0.topology == 4),.bool (decide ((d0.states.length : Int) ≤ 4))]) rfl rfl rfl zero118 (by exact ⟨rfl,rfl,⟨rfl,rfl,⟨rfl,rfl,⟨rfl,rfl,⟨rfl,rfl,trivial⟩⟩⟩⟩⟩) rfl rfl rfl ?_ rfl
 refine st O 0 rfl rfl (cs:=[.bool false,.bool false,.bool (d0.topology == 3),.bool (d0.topology == 4),.bool (decide ((d0.states.length : Int) ≤ 4))]) rfl rfl rfl fun _ R=>nf ?_
 cases p
 exact o_p 1 rfl (o_nil (⟨R,hx rfl⟩))
 refine o_p 5 rfl ?_
 refine o_bld (cs:=[(0,[.bool false]),(1,[.bool false]),(2,[.bool (d0.topology == 3)]),(3,[.bool (d0.topology == 4)]),(4,[.bool false])]) (res:=[.bool false,.bool false,.bool (d0.topology == 3),.bool (d0.topology == 4),.bool false]) rfl rfl rfl zero118 (by exact ⟨rfl,rfl,⟨rfl,rfl,⟨rfl,rfl,⟨rfl,rfl,⟨rfl,rfl,trivial⟩⟩⟩⟩⟩) rfl rfl rfl ?_ rfl
 refine st O 0 rfl rfl (cs:=[.bool false,.bool false,.bool (d0.topology == 3),.bool (d0.topology == 4),.bool false]) rfl rfl rfl fun _ R=>nf ?_
 cases p
 exact o_p 1 rfl (o_nil (⟨R,hx rfl⟩))
 rintro s _ ⟨R,_,rfl⟩
 cases p
 exact nx (rt (⟨_,⟨_,RdC.mk R (.S 0 rfl) rfl rfl,rfl⟩,Rt2.mk B ((R.del 1).del 0) (Classes.pk (⟨P.2.1,P.2.2.1,P.2.2.2.1,P.2.2.2.2.1,P.2.2.2.2.2⟩ : Classes)) ri⟩))
theorem c66 {v0 v1 : Value} {d0 : Protocol} {d1 : Property} (I : Inv w G S) (hL : Laid 0 G) {r : Int} (h0 : RepV G v0 d0) (h1 : RepV G v1 d1) (p : p_ValidateProperty d0 d1 = some r) :
 Calls Tryz.prog 66 #[v0, v1] w (RV (Rt G S r)) := by
 have a:=h0
 obtain ⟨b,c,d,f,g,h,i,rfl,j,_,_,_,k,_,_⟩:=Protocol.unp h0
 have _:=h1
 obtain ⟨l,m,n,o,rfl,t,u,v,x⟩:=Property.unp h1
 refine nt (n:=116) 4 [_,_] (h:=rfl) (res1 rfl) fun _=>sg ?_
 refine o_box I rfl rfl rfl (cs:=[.string d0.name,it d0.topology,b,c,d,it d0.fault,f,g,h,i]) rfl fun y _ z=>nf ?_
 refine o_box z rfl rfl rfl (cs:=[.string d1.name,it d1.kind,l,m,n,o]) rfl fun A _ B=>nf ?_
 refine o_p 1 rfl (en (sq (sg (lta B 1 rfl (cs:=[.string d0.name,it d0.topology,b,c,d,it d0.fault,f,g,h,i]) rfl (obk p fun _ C p=>?_)))))
 refine ca okf116 rfl (rvi (c116 B hL a C) fun _ _ D F=>?_)
 refine nf (o_p 1 rfl (en (pg rfl (cd p rfl (fun p=>?_) fun p=>?_))))
 cases p
 exact pg rfl (rt (pr (Rt.mk D ((F.del 1).del 0) ri)))
 refine sn (sg (o_p 1 rfl (lt F 1 rfl ?_)))
 obtain ⟨H,J,rfl,_⟩:=j.slice
 refine o_p 2 rfl (en (sg (o_p 1 rfl (lt F 0 rfl (o_p 2 rfl (en (sq ?_)))))))
 refine wpC_block ?_
 refine sg (o_p 1 rfl (lt F 0 rfl (obk p fun _ K p=>?_)))
 refine ca okf117 rfl (rvb (c117 F (Laid.mono D hL) (RepV.ofStr _ _) K) fun _ M N O=>?_)
 refine nf (o_p 2 rfl (en (cd p rfl (fun p=>?_) fun p=>?_)))
 cases p
 exact pg rfl (rt (br (pr (Rt.mk (D.t N) ((O.del 1).del 0) ri))))
 refine sg (o_p 3 rfl (obk p fun P Q p=>?_))
 refine oq (fun s w=>Inv w M ([(A,blk [.string d1.name,it d1.kind,l,m,n,o] 30)]::[(y,blk [.string d0.name,it d0.topology,(.slice H d0.states.length J),c,d,it d0.fault,f,g,h,i] 27)]::S)∧Hx s [(2,pt y),(3,pt A),(6,it (d0.states.length : Int)),(7,.bool (d1.kind == 1)),(27,.bool P)]) ?_ ?_
 replace p:=Q
 refine sp 30 p rfl (fun p=>?_) fun p=>?_
 refine o_p 1 rfl (lt O 0 rfl ?_)
 cases p
 exact o_p 3 rfl (o_nil (⟨O,hx rfl⟩))
 cases p
 exact o_p 5 rfl (o_nil (⟨O,hx rfl⟩))
 rintro s _ ⟨R,_,rfl⟩
 refine nx (cd p rfl (fun p=>?_) fun p=>?_)
 cases p
 exact pg rfl (rt (br (pr (Rt.mk (D.t N) ((R.del 1).del 0) ri))))
 refine sq (sg (o_p 2 rfl (obk p fun T U p=>?_)))
 refine oq (fun s w=>Inv w M ([(A,blk [.string d1.name,it d1.kind,l,m,n,o] 30)]::[(y,blk [.string d0.name,it d0.topology,(.slice H d0.states.length J),c,d,it d0.fault,f,g,h,i] 27)]::S)∧Hx s [(2,pt y),(3,pt A),(6,it (d0.states.length : Int)),(7,.bool (d1.kind == 1)),(35,.bool T)]) ?_ ?_
 replace p:=U
 refine sp 37 p rfl (fun p=>?_) fun p=>?_
 refine o_p 1 rfl (lt R 0 rfl ?_)
 obtain ⟨_,_,rfl,_⟩:=x.slice
 cases p
 exact o_p 4 rfl (o_nil (⟨R,hx rfl⟩))
 cases p
 exact o_p 6 rfl (o_nil (⟨R,hx rfl⟩))
 rintro s _ ⟨V,_,rfl⟩
 refine nx (obk p fun W X p=>?_)
 refine cq (fun s w=>Inv w M ([(A,blk [.string d1.name,it d1.kind,l,m,n,o] 30)]::[(y,blk [.string d0.name,it d0.topology,(.slice H d0.states.length J),c,d,it d0.fault,f,g,h,i] 27)]::S)∧Hx s [(2,pt y),(3,pt A),(6,it (d0.states.length : Int)),(7,.bool (d1.kind == 1)),(35,.bool W)]) ?_ ?_
 replace p:=X
 refine cd p rfl (fun p=>?_) fun p=>?_
 refine wpC_skip ?_
 cases p
 exact ⟨V,hx rfl⟩
 refine rg (o_p 3 rfl (obk p fun Y Z p=>?_))
 refine oq (fun s w=>Inv w M ([(A,blk [.string d1.name,it d1.kind,l,m,n,o] 30)]::[(y,blk [.string d0.name,it d0.topology,(.slice H d0.states.length J),c,d,it d0.fault,f,g,h,i] 27)]::S)∧Hx s [(2,pt y),(3,pt A),(6,it (d0.states.length : Int)),(7,.bool (d1.kind == 1)),(35,.bool Y)]) ?_ ?_
 replace p:=Z
 refine sp 45 p rfl (fun p=>?_) fun p=>?_
 refine o_p 1 rfl (lt V 0 rfl ?_)
 obtain ⟨_,_,rfl,_⟩:=u.slice
 refine o_p 3 rfl (sp 50 p rfl (fun p=>?_) fun p=>?_)
 cases p
 exact o_p 7 rfl (o_nil (⟨V,hx rfl⟩))
 refine o_p 1 rfl (lt V 0 rfl ?_)
 obtain ⟨_,_,rfl,_⟩:=v.slice
 cases p
 exact o_p 5 rfl (o_nil (⟨V,hx rfl⟩))
 cases p
 exact o_p 12 rfl (o_nil (⟨V,hx rfl⟩))
 rintro s _ ⟨a0,_,rfl⟩
 cases p
 exact ⟨a0,hx rfl⟩
 rintro s _ ⟨Y,_,rfl⟩
 refine nx (cd p rfl (fun p=>?_) fun p=>?_)
 cases p
 exact pg rfl (rt (br (pr (Rt.mk (D.t N) ((Y.del 1).del 0) ri))))
 refine wpC_skip (bn (nx (sq (sg (o_p 1 rfl (lt Y 0 rfl (o_p 1 rfl (obk p fun _ Z p=>?_))))))))
 refine ca okf118 rfl (rvi (c118 Y (t.m (D.t N)) (RepV.ofInt _ _) Z) fun _ a0 a1 a2=>?_)
 refine nf (o_p 1 rfl (en (pg rfl (cd p rfl (fun p=>?_) fun p=>?_))))
 cases p
 exact pg rfl (rt (pr (Rt.mk ((D.t N).t a1) ((a2.del 1).del 0) ri)))
 refine sn (sq (sg (o_p 1 rfl (lt a2 0 rfl ?_))))
 obtain ⟨a3,a4,rfl,_⟩:=t.slice
 refine o_p 2 rfl (en (obk p fun a5 a6 p=>?_))
 refine cq (fun s w=>∃ a7 : Unit,∃ a8,a5 = .inl a7∧Le a0 a8∧Inv w a8 ([(A,blk [.string d1.name,it d1.kind,(.slice a3 d1.start.length a4),m,n,o] 30)]::[(y,blk [.string d0.name,it d0.topology,(.slice H d0.states.length J),c,d,it d0.fault,f,g,h,i] 27)]::S)∧Hx s [(2,pt y),(3,pt A),(6,it (d0.states.length : Int)),(7,.bool (d1.kind == 1))]) ?_ ?_
 have a9:=p
 refine bk (fun (b0 : Int) s w=>∃ b1,Le a0 b1∧Inv w b1 ([(A,blk [.string d1.name,it d1.kind,(.slice a3 d1.start.length a4),m,n,o] 30)]::[(y,blk [.string d0.name,it d0.topology,(.slice H d0.states.length J),c,d,it d0.fault,f,g,h,i] 27)]::S)∧Hx s [(2,pt y),(3,pt A),(6,it (d0.states.length : Int)),(7,.bool (d1.kind == 1)),(65,(.slice a3 d1.start.length a4)),(66,it (d1.start.length : Int)),(67,it b0)]) a6 ⟨a0,lr,a2,hx rfl⟩ ?_
 clear a6
 rintro b0 _ s _ p ⟨b1,b2,b3,_,rfl⟩
 refine pg rfl (sq (cd p rfl (fun p=>?_) fun p=>?_))
 refine sn (sq ?_)
 refine wpC_block ?_
 refine sg (obk p fun _ b4 p=>?_)
 refine o_ix (t.m (((D.t N).t a1).t b2)).slice b4 rfl rfl rfl rfl rfl rfl rfl rfl (fun _ b5=>?_) rfl
 refine ld b3 b5 rfl fun _ b6=>?_
 obtain rfl:=b6.int
 refine o_p 1 rfl (en (sg (o_p 1 rfl (lt b3 1 rfl (o_p 1 rfl (obk p fun _ b7 p=>?_))))))
 refine ca okf70 rfl (rvb (c70 b3 (k.m (((D.t N).t a1).t b2)) (RepV.ofInt _ _) b7) fun _ b8 b9 e0=>?_)
 refine nf (o_p 1 rfl (en (cd p rfl (fun p=>?_) fun p=>?_)))
 refine pg rfl (rt (br (pr ?_)))
 cases p
 refine ⟨_,rfl,?_⟩
 rintro rfl
 have p:=a9
 cases p
 exact br (pr (pr (Rt.mk ((((D.t N).t a1).t b2).t b9) ((e0.del 1).del 0) ri)))
 refine wpC_skip ?_
 cases p
 exact bn (nx (rg (o_p 2 rfl (o_nil (nx ⟨_,rfl,⟨b8,(b2.t b9),e0,hx rfl⟩⟩)))))
 refine ex (px ?_)
 cases p
 refine ⟨_,rfl,?_⟩
 rintro rfl
 exact bh (nx (⟨_,b1,rfl,b2,b3,hx rfl⟩))
 rintro s _ ⟨a7,a8,rfl,a9,b0,_,rfl⟩
 refine nx (sq (pg rfl (cd p rfl (fun p=>?_) fun p=>?_)))
 refine sq ?_
 refine wpC_drawI hmTryz b0 (Cl a8 ([(A,blk [.string d1.name,it d1.kind,(.slice a3 d1.start.length a4),m,n,o] 30)]::[(y,blk [.string d0.name,it d0.topology,(.slice H d0.states.length J),c,d,it d0.fault,f,g,h,i] 27)]::S)) [(0,.any),(1,.here),(2,.any),(4,.any),(5,.far),(6,.any),(7,.any),(3,.eff true),(8,.eff false),(9,.eff false),(10,.eff false),(11,.any)] (by kernel_rfl) fun _ b1=>?_
 refine o_p 1 rfl (lt b1 0 rfl (o_p 2 rfl ?_))
 refine o_ltF (Cl.le b1 lr) (.S 0 rfl) rfl rfl rfl rfl rfl rfl ?_
 obtain ⟨_,_,rfl,_⟩:=x.slice
 refine o_p 2 rfl (obk p fun b2 b3 p=>?_)
 refine ca okf118 rfl (rvi (c118 b1 (x.m (((D.t N).t a1).t a9)) (RepV.ofInt _ _) b3) fun _ _ b4 b5=>?_)
 refine ⟨fun _=>Cl.le b5 b4,obk p fun b6 b7 p=>?_⟩
 refine ca okf120 rfl (rvi (c120 b5 (RepV.ofBool _ _) (RepV.ofInt _ _) b7) fun _ _ b8 b9=>?_)
 refine nf ?_
 refine o_bs (l:=[b2,b6]) (vs:=[it b2,it b6]) b9 ⟨ri,⟨ri,trivial⟩⟩ rfl rfl rfl ⟨rfl,rfl,⟨rfl,rfl,trivial⟩⟩ rfl elk37 rfl rfl rfl fun _ _ _ _ e0 e1=>nf ?_
 obtain ⟨_,_,e2,e3,e4⟩:=Inv.lend e1 0 rfl e0
 refine obk p fun _ e5 p=>?_
 refine ca okf119 rfl (rvi (c119 e2 e3 e5) fun _ _ e6 e7=>?_)
 obtain ⟨_,e8,e9⟩:=e4 _ _ _ e6 e7
 refine nf ?_
 cases p
 exact o_p 1 rfl (en (rt (pr (Rt.mk ((((((D.t N).t a1).t a9).t b4).t b8).t e8) (((e9.del 2).del 1).del 0) ri))))
 refine sn (sq ?_)
 refine wpC_drawI hmTryz b0 (Cl a8 ([(A,blk [.string d1.name,it d1.kind,(.slice a3 d1.start.length a4),m,n,o] 30)]::[(y,blk [.string d0.name,it d0.topology,(.slice H d0.states.length J),c,d,it d0.fault,f,g,h,i] 27)]::S)) [(0,.any),(1,.here),(2,.any),(3,.any),(4,.any),(5,.any),(6,.here),(7,.any),(8,.any),(9,.any),(11,.any),(12,.far),(13,.any),(14,.any),(16,.any),(17,.far),(18,.any),(20,.far),(21,.any),(22,.far),(10,.eff true),(15,.eff true),(19,.eff true),(23,.eff false),(24,.eff false),(25,.eff false),(26,.any)] (by kernel_rfl) fun _ b1=>?_
 refine o_p 1 rfl (lt b1 0 rfl ?_)
 obtain ⟨b2,b3,rfl,_⟩:=u.slice
 refine o_p 3 rfl (obk p fun b4 b5 p=>?_)
 refine oq (fun s w=>∃ b6,Le a8 b6∧Inv w b6 ([(A,blk [.string d1.name,it d1.kind,(.slice a3 d1.start.length a4),(.slice b2 d1.bad.length b3),n,o] 30)]::[(y,blk [.string d0.name,it d0.topology,(.slice H d0.states.length J),c,d,it d0.fault,f,g,h,i] 27)]::S)∧Hx s [(4,it b4)]) ?_ ?_
 replace p:=b5
 refine sp 94 p rfl (fun p=>?_) fun p=>?_
 refine o_p 1 rfl (lt b1 0 rfl ?_)
 obtain ⟨_,_,rfl,_⟩:=v.slice
 refine o_p 4 rfl ?_
 refine o_ltF (Cl.le b1 lr) (.S 0 rfl) rfl rfl rfl rfl rfl rfl ?_
 refine o_p 3 rfl ?_
 refine o_ltF (Cl.le b1 lr) (.S 0 rfl) rfl rfl rfl rfl rfl rfl ?_
 refine o_p 1 rfl ?_
 refine o_ltaF (Cl.le b1 lr) (.S 1 rfl) rfl rfl rfl (cs:=[.string d0.name,it d0.topology,(.slice H d0.states.length J),c,d,it d0.fault,f,g,h,i]) rfl rfl rfl ?_
 refine o_p 1 rfl ?_
 refine o_ltF (Cl.le b1 lr) (.S 0 rfl) rfl rfl rfl rfl rfl rfl ?_
 refine obk p fun b7 b8 p=>?_
 refine ca okf120 rfl (rvi (c120 b1 (RepV.ofBool _ _) (RepV.ofInt _ _) b8) fun _ _ b9 e0=>?_)
 refine ⟨fun _=>Cl.le e0 b9,obk p fun e1 e2 p=>?_⟩
 refine ca okf120 rfl (rvi (c120 e0 (RepV.ofBool _ _) (RepV.ofInt _ _) e2) fun _ _ e3 e4=>?_)
 refine ⟨fun _=>Cl.le e4 (b9.t e3),obk p fun e5 e6 p=>?_⟩
 refine ca okf121 rfl (rvi (c121 e4 (u.m (((((D.t N).t a1).t a9).t b9).t e3)) (RepV.ofInt _ _) e6) fun _ _ e7 e8=>?_)
 refine ⟨fun _=>Cl.le e8 ((b9.t e3).t e7),obk p fun e9 f0 p=>?_⟩
 refine ca okf122 rfl (rvi (c122 e8 (a.m ((((((D.t N).t a1).t a9).t b9).t e3).t e7)) (v.m ((((((D.t N).t a1).t a9).t b9).t e3).t e7)) f0) fun _ _ f1 f2=>?_)
 refine nf ?_
 refine o_bs (l:=[b7,e1,e5,e9]) (vs:=[it b7,it e1,it e5,it e9]) f2 ⟨ri,⟨ri,⟨ri,⟨ri,trivial⟩⟩⟩⟩ rfl rfl rfl ⟨rfl,rfl,⟨rfl,rfl,⟨rfl,rfl,⟨rfl,rfl,trivial⟩⟩⟩⟩ rfl elk37 rfl rfl rfl fun _ _ _ _ f3 f4=>nf ?_
 obtain ⟨_,_,f5,f6,f7⟩:=Inv.lend f4 0 rfl f3
 refine obk p fun _ f8 p=>?_
 refine ca okf119 rfl (rvi (c119 f5 f6 f8) fun _ _ f9 g0=>?_)
 obtain ⟨g1,g2,g3⟩:=f7 _ _ _ f9 g0
 refine nf ?_
 cases p
 exact o_p 1 rfl (o_nil (⟨g1,((((b9.t e3).t e7).t f1).t g2),(g3.del 0),hx rfl⟩))
 refine o_p 6 rfl ?_
 refine o_ltF (Cl.le b1 lr) (.S 0 rfl) rfl rfl rfl rfl rfl rfl ?_
 refine o_p 3 rfl ?_
 refine o_ltF (Cl.le b1 lr) (.S 0 rfl) rfl rfl rfl rfl rfl rfl ?_
 refine o_p 1 rfl ?_
 refine o_ltaF (Cl.le b1 lr) (.S 1 rfl) rfl rfl rfl (cs:=[.string d0.name,it d0.topology,(.slice H d0.states.length J),c,d,it d0.fault,f,g,h,i]) rfl rfl rfl ?_
 refine o_p 1 rfl ?_
 refine o_ltF (Cl.le b1 lr) (.S 0 rfl) rfl rfl rfl rfl rfl rfl ?_
 refine obk p fun b7 b8 p=>?_
 refine ca okf120 rfl (rvi (c120 b1 (RepV.ofBool _ _) (RepV.ofInt _ _) b8) fun _ _ b9 e0=>?_)
 refine ⟨fun _=>Cl.le e0 b9,obk p fun e1 e2 p=>?_⟩
 refine ca okf120 rfl (rvi (c120 e0 (RepV.ofBool _ _) (RepV.ofInt _ _) e2) fun _ _ e3 e4=>?_)
 refine ⟨fun _=>Cl.le e4 (b9.t e3),obk p fun e5 e6 p=>?_⟩
 refine ca okf121 rfl (rvi (c121 e4 (u.m (((((D.t N).t a1).t a9).t b9).t e3)) (RepV.ofInt _ _) e6) fun _ _ e7 e8=>?_)
 refine ⟨fun _=>Cl.le e8 ((b9.t e3).t e7),obk p fun e9 f0 p=>?_⟩
 refine ca okf122 rfl (rvi (c122 e8 (a.m ((((((D.t N).t a1).t a9).t b9).t e3).t e7)) (v.m ((((((D.t N).t a1).t a9).t b9).t e3).t e7)) f0) fun _ _ f1 f2=>?_)
 refine nf ?_
 refine o_bs (l:=[b7,e1,e5,e9]) (vs:=[it b7,it e1,it e5,it e9]) f2 ⟨ri,⟨ri,⟨ri,⟨ri,trivial⟩⟩⟩⟩ rfl rfl rfl ⟨rfl,rfl,⟨rfl,rfl,⟨rfl,rfl,⟨rfl,rfl,trivial⟩⟩⟩⟩ rfl elk37 rfl rfl rfl fun _ _ _ _ f3 f4=>nf ?_
 obtain ⟨_,_,f5,f6,f7⟩:=Inv.lend f4 0 rfl f3
 refine obk p fun _ f8 p=>?_
 refine ca okf119 rfl (rvi (c119 f5 f6 f8) fun _ _ f9 g0=>?_)
 obtain ⟨g1,g2,g3⟩:=f7 _ _ _ f9 g0
 refine nf ?_
 cases p
 exact o_p 1 rfl (o_nil (⟨g1,((((b9.t e3).t e7).t f1).t g2),(g3.del 0),hx rfl⟩))
 rintro s _ ⟨b6,b7,b8,_,rfl⟩
 cases p
 exact nx (rt (Rt.mk ((((D.t N).t a1).t a9).t b7) ((b8.del 1).del 0) ri))
theorem c68 {v0 v1 : Value} {d0 : Protocol} {d1 : Property} (I : Inv w G S) (hL : Laid 0 G) {r : List Int × Int} (h0 : RepV G v0 d0) (h1 : RepV G v1 d1) (p : p_Starts d0 d1 = some r) :
 Calls Tryz.prog 68 #[v0, v1] w (RV (Rt2 G S r)) := by
 have a:=h0
 obtain ⟨b,c,d,f,g,h,i,rfl,_,_,_,_,j,_,_⟩:=Protocol.unp h0
 have k:=h1
 obtain ⟨l,m,n,o,rfl,t,_,_,_⟩:=Property.unp h1
 refine enter (n:=23) (fun s=>.tuple #[s 4,s 5]) [_,_] Tryz.func68 rfl rfl rfl (res2 rfl) fun _=>sg (o_box I rfl rfl rfl (cs:=[.string d0.name,it d0.topology,b,c,d,it d0.fault,f,g,h,i]) rfl fun _ _ u=>nf (o_box u rfl rfl rfl (cs:=[.string d1.name,it d1.kind,l,m,n,o]) rfl fun _ _ v=>nf (o_p 2 rfl (en (sq (sg (lta v 1 rfl (cs:=[.string d0.name,it d0.topology,b,c,d,it d0.fault,f,g,h,i]) rfl (lta v 0 rfl (cs:=[.string d1.name,it d1.kind,l,m,n,o]) rfl (obk p fun _ x p=>ca okf66 rfl (rvi (c66 v hL a k x) fun _ _ y z=>nf (o_p 1 rfl (en (pg rfl (cd p rfl (fun p=>?_) fun p=>?_))))))))))))))
 cases p
 exact pg rfl (rt (pr (Rt2.mk y ((z.del 1).del 0) ((SliceAt.nil _).repV) ri)))
 refine sn (sq (sg (o_p 1 rfl (lt z 0 rfl ?_))))
 obtain ⟨_,_,rfl,_⟩:=t.slice
 refine o_p 2 rfl (en (cd p rfl (fun p=>?_) fun p=>?_))
 refine sg (o_p 1 rfl (lt z 0 rfl (obk p fun _ A p=>ca okf123 rfl (rv (c123 z (t.m y) A) fun _ _ _ B C D=>nf ?_))))
 cases p
 exact o_p 2 rfl (en (rt (pr (Rt2.mk (y.t B) ((C.del 1).del 0) D ri))))
 refine sn (sg (o_p 1 rfl (lt z 1 rfl (obk p fun _ A p=>ca okf123 rfl (rv (c123 z (j.m y) A) fun _ _ _ B C D=>nf ?_)))))
 cases p
 exact o_p 2 rfl (en (rt (Rt2.mk (y.t B) ((C.del 1).del 0) D ri)))
theorem c31 {v0 v1 : Value} {d0 : Protocol} {d1 : Property} (I : Inv w G S) (hL : Laid 0 G) {r : Int} (h0 : RepV G v0 d0) (h1 : RepV G v1 d1) (p : t_Check d0 d1 = some r) :
 Calls Tryz.prog 31 #[v0, v1] w (RV (Rt G S r)) := by
 have a:=h0
 obtain ⟨b,c,d,f,g,h,i,rfl,_,_,_,_,_,_,_⟩:=Protocol.unp h0
 have j:=h1
 obtain ⟨k,l,m,n,rfl,_,_,_,_⟩:=Property.unp h1
 refine nt (n:=27) 4 [_,_] (h:=rfl) (res1 rfl) fun _=>sg (o_box I rfl rfl rfl (cs:=[.string d0.name,it d0.topology,b,c,d,it d0.fault,f,g,h,i]) rfl fun o _ t=>nf (o_box t rfl rfl rfl (cs:=[.string d1.name,it d1.kind,k,l,m,n]) rfl fun u _ v=>nf (o_p 1 rfl (en (sq (sg (lta v 1 rfl (cs:=[.string d0.name,it d0.topology,b,c,d,it d0.fault,f,g,h,i]) rfl (lta v 0 rfl (cs:=[.string d1.name,it d1.kind,k,l,m,n]) rfl (obk p fun _ x p=>ca okf66 rfl (rvi (c66 v hL a j x) fun _ _ y z=>nf (o_p 1 rfl (en (pg rfl (cd p rfl (fun p=>?_) fun p=>?_))))))))))))))
 cases p
 exact pg rfl (rt (pr (Rt.mk y ((z.del 1).del 0) ri)))
 refine sn (sq (sg (lta z 1 rfl (cs:=[.string d0.name,it d0.topology,b,c,d,it d0.fault,f,g,h,i]) rfl (obk p fun A B p=>ca okf67 rfl (RVm (c67 z (Laid.mono y hL) (a.m y) B) ?_)))))
 rintro _ _ ⟨C,_,_,D,F,rfl,H,J⟩
 have _:=H
 obtain rfl:=Classes.unp H
 obtain rfl:=J.int
 refine nf (o_p 3 rfl (o_alloc F rfl rfl rfl zero118 fun K _ M=>nf (st M 0 rfl rfl (cs:=[.bool A.1.threshold,.bool A.1.cover,.bool A.1.word,.bool A.1.tree,.bool A.1.monadic]) rfl rfl rfl fun _ N=>nf (o_p 1 rfl (en (sg (o_p 1 rfl (lt N 0 rfl (o_p 2 rfl (obk p fun O P p=>oq (fun s w=>Inv w C ([(K,blk [.bool A.1.threshold,.bool A.1.cover,.bool A.1.word,.bool A.1.tree,.bool A.1.monadic] 118)]::[(u,blk [.string d1.name,it d1.kind,k,l,m,n] 30)]::[(o,blk [.string d0.name,it d0.topology,b,c,d,it d0.fault,f,g,h,i] 27)]::S)∧Hx s [(26,.bool O)]) ?_ ?_))))))))))
 replace p:=P
 refine sp 22 p rfl (fun p=>?_) fun p=>?_
 cases p
 exact o_p 4 rfl (o_nil (⟨N,hx rfl⟩))
 refine o_p 1 rfl (lt N 1 rfl ?_)
 cases p
 exact o_p 2 rfl (o_nil (⟨N,hx rfl⟩))
 rintro s _ ⟨Q,_,rfl⟩
 refine nx (cd p rfl (fun p=>?_) fun p=>?_)
 cases p
 exact pg rfl (rt (pr (Rt.mk (y.t D) (((Q.del 2).del 1).del 0) ri)))
 cases p
 exact sn (pg rfl (rt (Rt.mk (y.t D) (((Q.del 2).del 1).del 0) ri)))
theorem c74 {v0 : Value} {d0 : machine} (I : Inv w G S) {r : Option machine} (h0 : RepV G v0 (some d0)) (p : t_machine_minimal d0 = some r) :
 Calls Tryz.prog 74 #[v0] w (RV (Rt G S r)) := by
 obtain ⟨a,rfl,b⟩:=RepV.ptr h0
 refine nt (n:=36) 2 [_] (h:=rfl) (res1 rfl) fun _=>sg ?_
 refine o_box I rfl rfl rfl (cs:=[.pointer (some a)]) rfl fun c _ d=>nf ?_
 refine o_p 1 rfl (en (sg (lt d 0 rfl (obk p fun f g p=>?_))))
 refine ca okf126 rfl (rv (c126 d (RepV.ofPtr b) (RepV.ofInt _ _) g) fun h _ _ i j k=>?_)
 refine nf ?_
 refine o_alloc j rfl rfl rfl zero24 fun l _ m=>nf ?_
 refine st m 0 rfl rfl (cs:=[h]) (RepV.cells1 k rfl) (allc (RepV.one1 k rfl) rfl) rfl fun _ n=>nf ?_
 refine en (sg (lt n 1 rfl (obk p fun _ o p=>?_)))
 refine ca okf38 rfl (rvi (c38 n (RepV.ofPtr (PtrTo.mono i b)) o) fun _ t u v=>?_)
 refine nf (obk p fun _ x p=>?_)
 refine o_mks (z:=(0 : Int)) v x rfl rfl rfl elk3 zero3 (fun _=>by rfl) rfl rfl rfl rfl fun y z _ A B=>nf ?_
 refine o_alloc B rfl rfl rfl zero24 fun C _ D=>nf ?_
 refine st D 0 rfl rfl (cs:=[y]) (oneC_cells (OwnL.oneC A)) (allc (OwnL.oneC A) rfl) rfl fun _ F=>nf ?_
 refine en (sq (sg (lt F 2 rfl ?_)))
 obtain ⟨H,J,rfl,_⟩:=k.slice
 refine o_p 3 rfl (en (obk p fun K M p=>?_))
 refine cq (fun s w=>∃ N O,Inv w t ([(C,blk [N] 24)]::O::[(l,blk [(.slice H f.length J)] 24)]::[(c,blk [.pointer (some a)] 67)]::S)∧OwnL 3 t O N K∧Hx s [(1,pt c),(3,pt l),(4,pt C)]) ?_ ?_
 have _:=p
 refine bk (fun (P : Int × List Int) s w=>∃ Q R,Inv w t ([(C,blk [Q] 24)]::R::[(l,blk [(.slice H f.length J)] 24)]::[(c,blk [.pointer (some a)] 67)]::S)∧OwnL 3 t R Q P.2∧Hx s [(1,pt c),(3,pt l),(4,pt C),(5,it P.1)]) M ⟨y,z,F,A,hx rfl⟩ ?_
 clear M
 rintro P _ s _ p ⟨Q,R,T,U,_,rfl⟩
 refine sq (pg rfl (cd p rfl (fun p=>?_) fun p=>?_))
 refine sn (sq ?_)
 refine wpC_block ?_
 refine wpC_drawI hmTryz T (Cl t S) [(0,.here),(1,.here),(2,.any),(3,.any),(4,.here),(5,.any),(6,.any),(7,.eff false)] (by kernel_rfl) fun _ V=>?_
 refine lt V 0 rfl (lt V 2 rfl (o_p 1 rfl (obk p fun _ W p=>?_)))
 refine o_ix (k.m u).slice W rfl rfl rfl rfl rfl rfl rfl rfl (fun _ X=>?_) rfl
 refine ld V X rfl fun _ Y=>?_
 obtain rfl:=Y.int
 refine o_p 1 rfl (obk p fun _ Z p=>?_)
 refine o_ixO U Z rfl rfl rfl rfl rfl rfl rfl rfl (fun _ a0=>?_) rfl
 refine o_stO V 1 rfl U a0 Z ri rfl rfl rfl rfl rfl rfl rfl fun a1 _ a2 a3=>nf ?_
 cases p
 exact o_nil (bn (nx (rg (o_p 3 rfl (o_nil (nx ⟨_,rfl,⟨Q,a1,a3,a2,hx rfl⟩⟩))))))
 refine ex (px ?_)
 cases p
 refine ⟨_,rfl,?_⟩
 rintro rfl
 exact bh (nx (⟨Q,R,T,U,hx rfl⟩))
 rintro s _ ⟨N,O,P,Q,_,rfl⟩
 refine nx (sg (lt P 3 rfl (o_p 2 rfl (ld P (PtrTo.mono (i.t u) (PtrTo.fld b 0 rfl rfl)) rfl fun _ R=>?_))))
 obtain rfl:=R.int
 obtain ⟨_,T,U,V⟩:=Inv.frzB P 2 rfl (k.m u) rfl
 obtain ⟨_,W,X,Y⟩:=Inv.frzB U 2 rfl (RepV.ofPtr (PtrTo.mono ((i.t u).t T) b)) rfl
 refine o_mkf (fv:=[]) (cv:=[pt l,pt c]) rfl rfl rfl rfl rfl ?_ rfl
 obtain ⟨_,Z,a0,a1⟩:=Inv.frz X 1 rfl (OwnL.mono (T.t W) Q)
 obtain ⟨_,a2,a3,a4⟩:=Inv.frzB a0 0 rfl a1 (RepV.cells1 a1 rfl)
 refine o_mkf (fv:=[]) (cv:=[pt c,pt C]) rfl rfl rfl rfl rfl ?_ rfl
 refine o_bld (cs:=[(0,[it d0.letters]),(4,[.func (.func 127) #[] #[pt l,pt c]]),(5,[.nilFunc]),(6,[.func (.func 128) #[] #[pt c,pt C]])]) (res:=[it d0.letters,it 0,.map none,nl,.func (.func 127) #[] #[pt l,pt c],.nilFunc,.func (.func 128) #[] #[pt c,pt C]]) rfl rfl rfl zero217 (by exact ⟨rfl,rfl,⟨rfl,rfl,⟨rfl,rfl,⟨rfl,rfl,trivial⟩⟩⟩⟩) rfl rfl rfl ?_ rfl
 refine o_alloc a3 rfl rfl rfl zero217 fun _ _ a5=>nf ?_
 refine st a5 0 rfl rfl (cs:=[it d0.letters,it 0,.map none,nl,.func (.func 127) #[] #[pt l,pt c],.nilFunc,.func (.func 128) #[] #[pt c,pt C]]) rfl rfl rfl fun _ a6=>nf ?_
 refine en (sg ?_)
 refine o_mkf (fv:=[]) (cv:=[pt l,pt c,pt C]) rfl rfl rfl rfl rfl ?_ rfl
 refine o_p 1 rfl ?_
 refine st a6 0 rfl rfl (cs:=[.func (.func 129) #[] #[pt l,pt c,pt C]]) rfl rfl rfl fun _ a7=>nf ?_
 refine en (sg (obk p fun _ a8 p=>?_))
 refine ca okf130 rfl (rv (c130 a7 (Fn1.mk okf127 (fun _ hl _ _ b2 b3 _ I h0 hf=>c127 I h0 (PtrTo.mono hl (PtrTo.mono ((W.t Z).t a2) V)) (PtrTo.mono hl (PtrTo.mono (Z.t a2) Y)) hf)) (Fn3.mk okf129 (fun _ hl _ _ b2 _ _ b3 _ _ _ I h0 b4 b5 hf=>c129 I h0 b4 b5 (PtrTo.mono hl (PtrTo.mono ((W.t Z).t a2) V)) (PtrTo.mono hl (PtrTo.mono (Z.t a2) Y)) (PtrTo.mono hl a4) hf)) (Fn1.mk okf128 (fun _ hl _ _ b2 b3 _ I h0 hf=>c128 I h0 (PtrTo.mono hl (PtrTo.mono (Z.t a2) Y)) (PtrTo.mono hl a4) hf))  a8) fun _ _ _ a9 b0 b1=>?_)
 refine nf ?_
 cases p
 exact o_p 1 rfl (en (rt (Rt.mk ((((((i.t u).t T).t W).t Z).t a2).t a9) b0 b1)))
theorem c65 {v0 : Value} {d0 : TreeAutomaton} (I : Inv w G S) {r : Option machine × Int} (h0 : RepV G v0 d0) (p : t_minimal d0 = some r) :
 Calls Tryz.prog 65 #[v0] w (RV (Rt2 G S r)) := by
 have a:=h0
 obtain ⟨b,c,d,rfl,_,_,_⟩:=TreeAutomaton.unp h0
 refine enter (n:=11) (fun s=>.tuple #[s 2,s 3]) [_] Tryz.func65 rfl rfl rfl (res2 rfl) fun _=>sg (o_box I rfl rfl rfl (cs:=[it d0.letters,it d0.states,b,c,d]) rfl fun _ _ f=>nf (o_p 2 rfl (en (sg (lta f 0 rfl (cs:=[it d0.letters,it d0.states,b,c,d]) rfl (obk p fun _ g p=>ca okf115 rfl (rv (c115 f a (RepV.ofInt _ _) g) fun _ _ _ h i j=>nf (o_p 1 rfl (en (sq (sg (o_p 1 rfl (o_pnil j rfl rfl rfl rfl rfl rfl rfl (en (cd p rfl (fun p=>?_) fun p=>?_)) rfl)))))))))))))
 cases p
 exact pg rfl (rt (pr (Rt2.mk h (i.del 0) (RepV.ofNil _) ri)))
 refine sn (sg (o_p 1 rfl (obk p fun _ k p=>?_)))
 obtain ⟨_,rfl,l⟩:=RepV.ptr' j k
 refine obk p fun _ m p=>ca okf74 rfl (rv (c74 i (RepV.ofPtr l) m) fun _ _ _ n o t=>nf ?_)
 cases p
 exact o_p 2 rfl (en (rt (Rt2.mk (h.t n) (o.del 0) t ri)))
theorem c29 {v0 : Value} {d0 : TreeAutomaton} (I : Inv w G S) {r : TreeAutomaton × Int} (h0 : RepV G v0 d0) (p : t_Minimal d0 = some r) :
 Calls Tryz.prog 29 #[v0] w (RV (Rt2 G S r)) := by
 have a:=h0
 obtain ⟨b,c,d,rfl,_,_,_⟩:=TreeAutomaton.unp h0
 refine enterM (n:=24) (fun s w v=>∃ x,RdC Tryz.prog 2 36 s w x∧v = .tuple #[x,s 3]) [_] Tryz.func29 rfl rfl rfl (resCT rfl) fun _=>sg (o_box I rfl rfl rfl (cs:=[it d0.letters,it d0.states,b,c,d]) rfl fun _ _ f=>nf (o_alloc f rfl rfl rfl zero36 fun _ _ g=>nf (o_p 1 rfl (en (sq (sg (lta g 1 rfl (cs:=[it d0.letters,it d0.states,b,c,d]) rfl (obk p fun _ h p=>ca okf40 rfl (rvi (c40 g a h) fun _ _ i j=>nf (o_p 1 rfl (en (pg rfl (cd p rfl (fun p=>?_) fun p=>?_)))))))))))))
 refine sg (o_bld (cs:=[]) (res:=[it 0,it 0,nl,nl,nl]) rfl rfl rfl zero36 (by exact trivial) rfl rfl rfl (o_p 1 rfl (st j 0 rfl rfl (cs:=[it 0,it 0,nl,nl,nl]) rfl rfl rfl fun _ k=>nf ?_)) rfl)
 cases p
 exact o_p 1 rfl (en (rt (pr (⟨_,⟨_,RdC.mk k (.S 0 rfl) rfl rfl,rfl⟩,Rt2.mk i ((k.del 1).del 0) (TreeAutomaton.pk (⟨0,0,([] : List Int),([] : List Leaf),([] : List Branch)⟩ : TreeAutomaton) ((SliceAt.nil _).repV) ((SliceAt.nil _).repV) ((SliceAt.nil _).repV)) ri⟩))))
 refine sn (sg (lta j 1 rfl (cs:=[it d0.letters,it d0.states,b,c,d]) rfl (obk p fun _ k p=>ca okf65 rfl (RVm (c65 j (a.m i) k) ?_))))
 rintro _ _ ⟨_,_,_,l,m,rfl,n,o⟩
 obtain rfl:=o.int
 refine nf (o_p 5 rfl (en (sq (pg rfl (cd p rfl (fun p=>?_) fun p=>?_)))))
 refine sg (o_bld (cs:=[]) (res:=[it 0,it 0,nl,nl,nl]) rfl rfl rfl zero36 (by exact trivial) rfl rfl rfl (o_p 1 rfl (st m 0 rfl rfl (cs:=[it 0,it 0,nl,nl,nl]) rfl rfl rfl fun _ t=>nf ?_)) rfl)
 cases p
 exact o_p 1 rfl (en (rt (pr (⟨_,⟨_,RdC.mk t (.S 0 rfl) rfl rfl,rfl⟩,Rt2.mk (i.t l) ((t.del 1).del 0) (TreeAutomaton.pk (⟨0,0,([] : List Int),([] : List Leaf),([] : List Branch)⟩ : TreeAutomaton) ((SliceAt.nil _).repV) ((SliceAt.nil _).repV) ((SliceAt.nil _).repV)) ri⟩))))
 refine sn (sg (o_p 1 rfl (obk p fun _ t p=>?_)))
 obtain ⟨_,rfl,u⟩:=RepV.ptr' n t
 refine obk p fun y z p=>ca okf33 rfl (rv (c33 m (RepV.ofPtr u) z) fun _ _ _ A B C=>?_)
 have D:=C
 obtain ⟨F,H,J,rfl,K,M,N⟩:=TreeAutomaton.unp C
 refine nf (st B 0 rfl rfl (cs:=[it y.letters,it y.states,F,H,J]) rfl (allc rfl (allc rfl (allc (RepV.one1 K rfl) (allc (RepV.one1 M rfl) (allc (RepV.one1 N rfl) rfl))))) rfl fun _ O=>nf ?_)
 cases p
 exact o_p 1 rfl (en (rt (⟨_,⟨_,RdC.mk O (.S 0 rfl) rfl rfl,rfl⟩,Rt2.mk ((i.t l).t A) ((O.del 1).del 0) D ri⟩)))
theorem c10 (I : Inv w G S) {r : Bool} (p : l7_known = some r) :
 Calls Tryz.prog 10 #[] w (RV (Rt G S r)) := by
 refine nt (n:=38) 0 [] (h:=rfl) (res1 rfl) fun _=>pg rfl (sg (o_bld (cs:=[(0,[it 1])]) (res:=[it 1,it 0,nl,nl,nl]) rfl rfl rfl zero36 (by exact ⟨rfl,rfl,trivial⟩) rfl rfl rfl (obk p fun a b p=>ca okf29 rfl (RVm (c29 I (TreeAutomaton.pk (⟨1,0,([] : List Int),([] : List Leaf),([] : List Branch)⟩ : TreeAutomaton) ((SliceAt.nil _).repV) ((SliceAt.nil _).repV) ((SliceAt.nil _).repV)) b) ?_)) rfl))
 rintro _ _ ⟨c,_,_,d,f,rfl,g,h⟩
 have _:=g
 obtain ⟨i,j,k,rfl,l,m,n⟩:=TreeAutomaton.unp g
 obtain rfl:=h.int
 refine nf (o_p 3 rfl (o_alloc f rfl rfl rfl zero36 fun o _ t=>nf (st t 0 rfl rfl (cs:=[it a.1.letters,it a.1.states,i,j,k]) rfl (allc rfl (allc rfl (allc (RepV.one1 l rfl) (allc (RepV.one1 m rfl) (allc (RepV.one1 n rfl) rfl))))) rfl fun _ u=>nf (o_p 1 rfl (en (sg (o_p 3 rfl (obk p fun v x p=>oq (fun s w=>∃ y,Le c y∧Inv w y ([(o,blk [it a.1.letters,it a.1.states,i,j,k] 36)]::S)∧Hx s [(0,.bool v)]) ?_ ?_))))))))
 replace p:=x
 refine sp 10 p rfl (fun p=>?_) fun p=>?_
 refine o_p 1 rfl (lt u 0 rfl (o_p 3 rfl (sp 15 p rfl (fun p=>?_) fun p=>?_)))
 refine o_p 1 rfl (lt u 0 rfl ?_)
 obtain ⟨_,_,rfl,_⟩:=m.slice
 refine o_p 4 rfl (sp 21 p rfl (fun p=>?_) fun p=>?_)
 refine o_p 1 rfl (lt u 0 rfl ?_)
 obtain ⟨_,_,rfl,_⟩:=n.slice
 refine o_p 4 rfl (sp 27 p rfl (fun p=>?_) fun p=>?_)
 refine o_p 1 rfl (lt u 0 rfl ?_)
 obtain ⟨_,_,rfl,_⟩:=l.slice
 refine o_p 4 rfl (sp 33 p rfl (fun p=>?_) fun p=>?_)
 refine o_bs (l:=[2,0,0]) (vs:=[it 2,it 0,it 0]) u ⟨ri,⟨ri,⟨ri,trivial⟩⟩⟩ rfl rfl rfl ⟨rfl,rfl,⟨rfl,rfl,⟨rfl,rfl,trivial⟩⟩⟩ rfl elk3 rfl rfl rfl fun _ _ _ _ z A=>nf (o_bs (l:=[0,0,0]) (vs:=[it 0,it 0,it 0]) A ⟨ri,⟨ri,⟨ri,trivial⟩⟩⟩ rfl rfl rfl ⟨rfl,rfl,⟨rfl,rfl,⟨rfl,rfl,trivial⟩⟩⟩ rfl elk3 rfl rfl rfl fun _ _ _ _ B C=>nf ?_)
 obtain ⟨_,D,F,H,J⟩:=Inv.lend C 1 rfl z
 obtain ⟨_,K,M,N,O⟩:=Inv.lend F 0 rfl (OwnL.mono D B)
 refine obk p fun _ P p=>ca okf30 rfl (rvb (c30 M (RepV.ofInt _ _) (H.m K) N P) fun _ _ Q R=>?_)
 obtain ⟨_,T,U⟩:=O _ _ _ Q R
 obtain ⟨V,W,X⟩:=J _ _ _ T U
 refine nf ?_
 cases p
 exact o_p 2 rfl (o_nil (⟨V,W,((X.del 1).del 0),hx rfl⟩))
 refine o_no rfl rfl (o_no rfl rfl (o_no rfl rfl ?_))
 cases p
 exact o_p 2 rfl (o_nil (⟨c,lr,u,hx rfl⟩))
 refine o_p 6 rfl (o_no rfl rfl (o_no rfl rfl (o_no rfl rfl ?_)))
 cases p
 exact o_p 2 rfl (o_nil (⟨c,lr,u,hx rfl⟩))
 refine o_p 12 rfl (o_no rfl rfl (o_no rfl rfl (o_no rfl rfl ?_)))
 cases p
 exact o_p 2 rfl (o_nil (⟨c,lr,u,hx rfl⟩))
 refine o_p 18 rfl (o_no rfl rfl (o_no rfl rfl (o_no rfl rfl ?_)))
 cases p
 exact o_p 2 rfl (o_nil (⟨c,lr,u,hx rfl⟩))
 refine o_p 23 rfl (o_no rfl rfl (o_no rfl rfl (o_no rfl rfl ?_)))
 cases p
 exact o_p 2 rfl (o_nil (⟨c,lr,u,hx rfl⟩))
 rintro s _ ⟨y,z,A,_,rfl⟩
 cases p
 exact nx (rt (Rt.mk (d.t z) (A.del 0) rb))
theorem c32 {v0 v1 : Value} {d0 : Protocol} {d1 : Property} (I : Inv w G S) (hL : Laid 0 G) {r : Option machine} (h0 : RepV G v0 d0) (h1 : RepV G v1 d1) (p : t_initialTrees d0 d1 = some r) :
 Calls Tryz.prog 32 #[v0, v1] w (RV (Rt G S r)) := by
 have a:=h0
 obtain ⟨b,c,d,f,g,h,i,rfl,j,_,_,_,_,k,_⟩:=Protocol.unp h0
 have l:=h1
 obtain ⟨m,n,o,t,rfl,_,_,_,_⟩:=Property.unp h1
 refine nt (n:=30) 4 [_,_] (h:=rfl) (res1 rfl) fun _=>sg ?_
 refine o_box I rfl rfl rfl (cs:=[.string d0.name,it d0.topology,b,c,d,it d0.fault,f,g,h,i]) rfl fun u _ v=>nf ?_
 refine o_box v rfl rfl rfl (cs:=[.string d1.name,it d1.kind,m,n,o,t]) rfl fun x _ y=>nf ?_
 refine o_p 1 rfl (en (sg (lta y 1 rfl (cs:=[.string d0.name,it d0.topology,b,c,d,it d0.fault,f,g,h,i]) rfl (lta y 0 rfl (cs:=[.string d1.name,it d1.kind,m,n,o,t]) rfl (obk p fun _ z p=>?_)))))
 refine ca okf68 rfl (RVm (c68 y hL a l z) ?_)
 rintro _ _ ⟨A,B,_,C,D,rfl,F,H⟩
 obtain rfl:=H.int
 refine nf (o_p 3 rfl ?_)
 refine o_alloc D rfl rfl rfl zero24 fun J _ K=>nf ?_
 refine st K 0 rfl rfl (cs:=[B]) (RepV.cells1 F rfl) (allc (RepV.one1 F rfl) rfl) rfl fun _ M=>nf ?_
 refine o_p 1 rfl (en (sg (lt M 0 rfl ?_)))
 refine o_alloc M rfl rfl rfl zero24 fun N _ O=>nf ?_
 refine st O 0 rfl rfl (cs:=[B]) (RepV.cells1 F rfl) (allc (RepV.one1 F rfl) rfl) rfl fun _ P=>nf ?_
 refine en (sq (sg (o_p 1 rfl (lt P 3 rfl ?_))))
 obtain ⟨Q,R,rfl,_⟩:=k.slice
 refine o_p 2 rfl (en (obk p fun T U p=>?_))
 refine cq (fun s w=>∃ V,Inv w A ([(N,blk [V] 24)]::[(J,blk [B] 24)]::[(x,blk [.string d1.name,it d1.kind,m,n,o,t] 30)]::[(u,blk [.string d0.name,it d0.topology,b,c,d,it d0.fault,f,g,(.slice Q d0.leader.length R),i] 27)]::S)∧RepV A V T∧Hx s [(2,pt u),(5,pt J),(7,pt N)]) ?_ ?_
 replace p:=U
 refine cd p rfl (fun p=>?_) fun p=>?_
 refine rg (o_p 1 rfl (lt P 3 rfl ?_))
 refine st P 0 rfl rfl (cs:=[(.slice Q d0.leader.length R)]) rfl rfl rfl fun _ W=>nf ?_
 cases p
 exact o_nil (⟨(.slice Q d0.leader.length R),W,(k.m C),hx rfl⟩)
 refine wpC_skip ?_
 cases p
 exact ⟨B,P,F,hx rfl⟩
 rintro s _ ⟨V,W,X,_,rfl⟩
 refine nx (sg (o_p 1 rfl (lt W 3 rfl ?_)))
 obtain ⟨_,_,rfl,_⟩:=j.slice
 refine o_p 1 rfl ?_
 obtain ⟨_,Y,Z,a0⟩:=Inv.frzB W 1 rfl F (RepV.cells1 F rfl)
 obtain ⟨_,a1,a2,a3⟩:=Inv.frzB Z 0 rfl (X.m Y) (RepV.cells1 X rfl)
 refine o_mkf (fv:=[]) (cv:=[pt J,pt N]) rfl rfl rfl rfl rfl ?_ rfl
 refine o_mkf (fv:=[]) (cv:=[pt J,pt N]) rfl rfl rfl rfl rfl ?_ rfl
 refine o_bld (cs:=[(0,[it (d0.states.length : Int)]),(4,[.func (.func 69) #[] #[pt J,pt N]]),(5,[.func (.func 71) #[] #[pt J,pt N]]),(6,[.func (.func 72) #[] #[]])]) (res:=[it (d0.states.length : Int),it 0,.map none,nl,.func (.func 69) #[] #[pt J,pt N],.func (.func 71) #[] #[pt J,pt N],.func (.func 72) #[] #[]]) rfl rfl rfl zero132 (by exact ⟨rfl,rfl,⟨rfl,rfl,⟨rfl,rfl,⟨rfl,rfl,trivial⟩⟩⟩⟩) rfl rfl rfl ?_ rfl
 refine o_alloc a2 rfl rfl rfl zero132 fun _ _ a4=>nf ?_
 refine st a4 0 rfl rfl (cs:=[it (d0.states.length : Int),it 0,.map none,nl,.func (.func 69) #[] #[pt J,pt N],.func (.func 71) #[] #[pt J,pt N],.func (.func 72) #[] #[]]) rfl rfl rfl fun _ a5=>nf ?_
 refine en (sg (obk p fun _ a6 p=>?_))
 refine ca okf73 rfl (rv (c73 a5 (Fn1.mk okf69 (fun _ hl _ _ b0 b1 _ I h0 hf=>c69 I h0 (PtrTo.mono hl (PtrTo.mono a1 a0)) (PtrTo.mono hl a3) hf)) (Fn3.mk okf71 (fun _ hl _ _ b0 b _ b1 _ _ _ I h0 h1 b2 hf=>c71 I h0 h1 b2 (PtrTo.mono hl (PtrTo.mono a1 a0)) (PtrTo.mono hl a3) hf)) (Fn1.mk okf72 (fun _ hl _ _ b0 b1 _ I h0 hf=>c72 I h0  hf))  a6) fun _ _ _ a7 a8 a9=>?_)
 refine nf (obk p fun _ b3 p=>?_)
 obtain ⟨_,rfl,b4⟩:=RepV.ptr' a9 b3
 refine obk p fun _ b5 p=>?_
 refine ca okf74 rfl (rv (c74 a8 (RepV.ofPtr b4) b5) fun _ _ _ b6 b7 b8=>?_)
 refine nf ?_
 cases p
 exact o_p 1 rfl (en (rt (Rt.mk ((((C.t Y).t a1).t a7).t b6) ((b7.del 1).del 0) b8)))
theorem c11 {v0 v1 : Value} {d0 : Protocol} {d1 : Property} (I : Inv w G S) (hL : Laid 0 G) {r : TreeAutomaton × Int} (h0 : RepV G v0 d0) (h1 : RepV G v1 d1) (p : t_InitialTrees d0 d1 = some r) :
 Calls Tryz.prog 11 #[v0, v1] w (RV (Rt2 G S r)) := by
 have a:=h0
 obtain ⟨b,c,d,f,g,h,i,rfl,_,_,_,_,_,_,_⟩:=Protocol.unp h0
 have j:=h1
 obtain ⟨k,l,m,n,rfl,_,_,_,_⟩:=Property.unp h1
 refine enterM (n:=18) (fun s w v=>∃ x,RdC Tryz.prog 4 36 s w x∧v = .tuple #[x,s 5]) [_,_] Tryz.func11 rfl rfl rfl (resCT rfl) fun _=>sg (o_box I rfl rfl rfl (cs:=[.string d0.name,it d0.topology,b,c,d,it d0.fault,f,g,h,i]) rfl fun _ _ o=>nf (o_box o rfl rfl rfl (cs:=[.string d1.name,it d1.kind,k,l,m,n]) rfl fun _ _ t=>nf (o_alloc t rfl rfl rfl zero36 fun _ _ u=>nf (o_p 1 rfl (en (sq (sg (lta u 2 rfl (cs:=[.string d0.name,it d0.topology,b,c,d,it d0.fault,f,g,h,i]) rfl (lta u 1 rfl (cs:=[.string d1.name,it d1.kind,k,l,m,n]) rfl (obk p fun _ y p=>ca okf31 rfl (rvi (c31 u hL a j y) fun _ _ z A=>nf (o_p 1 rfl (en (pg rfl (cd p rfl (fun p=>?_) fun p=>?_)))))))))))))))
 refine sg (o_bld (cs:=[]) (res:=[it 0,it 0,nl,nl,nl]) rfl rfl rfl zero36 (by exact trivial) rfl rfl rfl (o_p 1 rfl (st A 0 rfl rfl (cs:=[it 0,it 0,nl,nl,nl]) rfl rfl rfl fun _ B=>nf ?_)) rfl)
 cases p
 exact o_p 1 rfl (en (rt (pr (⟨_,⟨_,RdC.mk B (.S 0 rfl) rfl rfl,rfl⟩,Rt2.mk z (((B.del 2).del 1).del 0) (TreeAutomaton.pk (⟨0,0,([] : List Int),([] : List Leaf),([] : List Branch)⟩ : TreeAutomaton) ((SliceAt.nil _).repV) ((SliceAt.nil _).repV) ((SliceAt.nil _).repV)) ri⟩))))
 refine sn (sg (lta A 2 rfl (cs:=[.string d0.name,it d0.topology,b,c,d,it d0.fault,f,g,h,i]) rfl (lta A 1 rfl (cs:=[.string d1.name,it d1.kind,k,l,m,n]) rfl (obk p fun _ B p=>ca okf32 rfl (rv (c32 A (Laid.mono z hL) (a.m z) (j.m z) B) fun _ _ _ C D F=>nf (obk p fun _ H p=>?_))))))
 obtain ⟨_,rfl,J⟩:=RepV.ptr' F H
 refine obk p fun K M p=>ca okf33 rfl (rv (c33 D (RepV.ofPtr J) M) fun _ _ _ N O P=>?_)
 have Q:=P
 obtain ⟨R,T,U,rfl,V,W,X⟩:=TreeAutomaton.unp P
 refine nf (st O 0 rfl rfl (cs:=[it K.letters,it K.states,R,T,U]) rfl (allc rfl (allc rfl (allc (RepV.one1 V rfl) (allc (RepV.one1 W rfl) (allc (RepV.one1 X rfl) rfl))))) rfl fun _ Y=>nf ?_)
 cases p
 exact o_p 1 rfl (en (rt (⟨_,⟨_,RdC.mk Y (.S 0 rfl) rfl rfl,rfl⟩,Rt2.mk ((z.t C).t N) (((Y.del 2).del 1).del 0) Q ri⟩)))
theorem c3 {v0 v1 : Value} {d0 : Protocol} {d1 : Property} (I : Inv w G S) (hL : Laid 0 G) {r : Bool} (h0 : RepV G v0 d0) (h1 : RepV G v1 d1) (p : l7_TreeInitials d0 d1 = some r) :
 Calls Tryz.prog 3 #[v0, v1] w (RV (Rt G S r)) := by
 have a:=h0
 obtain ⟨b,c,d,f,g,h,i,rfl,_,_,_,_,_,_,_⟩:=Protocol.unp h0
 have j:=h1
 obtain ⟨k,l,m,n,rfl,_,_,_,_⟩:=Property.unp h1
 refine nt (n:=36) 4 [_,_] (h:=rfl) (res1 rfl) fun _=>sg (o_box I rfl rfl rfl (cs:=[.string d0.name,it d0.topology,b,c,d,it d0.fault,f,g,h,i]) rfl fun o _ t=>nf (o_box t rfl rfl rfl (cs:=[.string d1.name,it d1.kind,k,l,m,n]) rfl fun u _ v=>nf (o_p 1 rfl (en (sq (sg (lta v 1 rfl (cs:=[.string d0.name,it d0.topology,b,c,d,it d0.fault,f,g,h,i]) rfl (lta v 0 rfl (cs:=[.string d1.name,it d1.kind,k,l,m,n]) rfl (obk p fun _ x p=>ca okf9 rfl (rvb (c9 v a j x) fun _ _ y z=>nf (en (cd p rfl (fun p=>?_) fun p=>?_))))))))))))
 refine sg (obk p fun _ A p=>ca okf10 rfl (rvb (c10 z  A) fun _ _ B C=>nf ?_))
 cases p
 exact o_p 1 rfl (en (rt (pr (Rt.mk (y.t B) ((C.del 1).del 0) rb))))
 refine sn (sg (lta z 1 rfl (cs:=[.string d0.name,it d0.topology,b,c,d,it d0.fault,f,g,h,i]) rfl (lta z 0 rfl (cs:=[.string d1.name,it d1.kind,k,l,m,n]) rfl (obk p fun A B p=>ca okf11 rfl (RVm (c11 z (Laid.mono y hL) (a.m y) (j.m y) B) ?_)))))
 rintro _ _ ⟨_,_,_,C,D,rfl,F,H⟩
 have J:=F
 obtain ⟨K,M,N,rfl,O,P,Q⟩:=TreeAutomaton.unp F
 obtain rfl:=H.int
 refine nf (o_p 3 rfl (o_alloc D rfl rfl rfl zero36 fun R _ T=>nf (st T 0 rfl rfl (cs:=[it A.1.letters,it A.1.states,K,M,N]) rfl (allc rfl (allc rfl (allc (RepV.one1 O rfl) (allc (RepV.one1 P rfl) (allc (RepV.one1 Q rfl) rfl))))) rfl fun _ U=>nf (o_p 1 rfl (en (sg (lta U 2 rfl (cs:=[.string d0.name,it d0.topology,b,c,d,it d0.fault,f,g,h,i]) rfl (lta U 1 rfl (cs:=[.string d1.name,it d1.kind,k,l,m,n]) rfl (obk p fun V W p=>ca okf12 rfl (RVm (c12 U (a.m (y.t C)) (j.m (y.t C)) W) ?_))))))))))
 rintro _ _ ⟨X,_,_,Y,Z,rfl,a0,a1⟩
 have a2:=a0
 obtain ⟨a3,a4,a5,rfl,a6,a7,a8⟩:=TreeAutomaton.unp a0
 obtain rfl:=a1.int
 refine nf (o_p 3 rfl (o_alloc Z rfl rfl rfl zero36 fun a9 _ b0=>nf (st b0 0 rfl rfl (cs:=[it V.1.letters,it V.1.states,a3,a4,a5]) rfl (allc rfl (allc rfl (allc (RepV.one1 a6 rfl) (allc (RepV.one1 a7 rfl) (allc (RepV.one1 a8 rfl) rfl))))) rfl fun _ b1=>nf (o_p 1 rfl (en (sg (o_p 4 rfl (obk p fun b2 b3 p=>oq (fun s w=>∃ b4,Le X b4∧Inv w b4 ([(a9,blk [it V.1.letters,it V.1.states,a3,a4,a5] 36)]::[(R,blk [it A.1.letters,it A.1.states,K,M,N] 36)]::[(u,blk [.string d1.name,it d1.kind,k,l,m,n] 30)]::[(o,blk [.string d0.name,it d0.topology,b,c,d,it d0.fault,f,g,h,i] 27)]::S)∧Hx s [(4,.bool b2)]) ?_ ?_))))))))
 replace p:=b3
 refine sp 28 p rfl (fun p=>?_) fun p=>?_
 refine lta b1 1 rfl (cs:=[it A.1.letters,it A.1.states,K,M,N]) rfl (lta b1 0 rfl (cs:=[it V.1.letters,it V.1.states,a3,a4,a5]) rfl (obk p fun _ b5 p=>ca okf13 rfl (rvb (c13 b1 (J.m Y) a2 b5) fun _ b6 b7 b8=>nf (o_p 2 rfl (sp 33 p rfl (fun p=>?_) fun p=>?_)))))
 refine obk p fun _ b9 p=>ca okf10 rfl (rvb (c10 b8  b9) fun _ e0 e1 e2=>nf ?_)
 cases p
 exact o_p 2 rfl (o_nil (⟨e0,(b7.t e1),e2,hx rfl⟩))
 refine o_no rfl rfl ?_
 cases p
 exact o_p 2 rfl (o_nil (⟨b6,b7,b8,hx rfl⟩))
 refine o_p 2 rfl (o_no rfl rfl (o_p 2 rfl (o_no rfl rfl ?_)))
 cases p
 exact o_p 2 rfl (o_nil (⟨X,lr,b1,hx rfl⟩))
 rintro s _ ⟨b4,b5,b6,_,rfl⟩
 cases p
 exact nx (rt (Rt.mk (((y.t C).t Y).t b5) ((((b6.del 3).del 2).del 1).del 0) rb))
end Go.Lg
