/- The walks, part 2: the Go functions compute their plain functions. Printed by a program of this claim's author. Conditions: none but that the plain function has a value. -/
import Derived.Test.YtldimfobgpmlaaaGreatDoorTIGb
set_option autoImplicit true
set_option linter.unusedVariables false
set_option maxRecDepth 100000
set_option maxHeartbeats 40000000
namespace Go.Lg
open Go Go.Proofs
variable {G : Store} {S : List Seg} {w : World}
theorem c125 {bmut : Nat} {s2m s3m : Seg} {u0m u1m u2m u3m u4m u5m u6m v1 : Value} {x2m : Mp part} {x3m : List part} {d1 : part} (I : Inv w G ([(bmut, blk [u0m, u1m, u2m, u3m, u4m, u5m, u6m] 132)] :: s2m :: s3m :: S)) {r : Int × Mp part × List part} (hm2 : OwnM Tryz.prog 124 s2m u2m x2m) (hm3 : OwnL 124 G s3m u3m x3m) (h1 : RepV G v1 d1) (p : t_builder_meet x2m x3m d1 = some r) :
 Calls Tryz.prog 125 #[.pointer (some ⟨bmut, 0, none⟩), v1] w (RV (fun v w' => ∃ G' u2' s2' u3' s3', Le G G' ∧ Inv w' G' ([(bmut, blk [u0m, u1m, u2', u3', u4m, u5m, u6m] 132)] :: s2' :: s3' :: S) ∧ OwnM Tryz.prog 124 s2' u2' r.2.1 ∧ OwnL 124 G' s3' u3' r.2.2 ∧ RepV G' v r.1)) := by
 have a:=h1
 obtain rfl:=part.unp h1
 refine nt (n:=40) 4 [_,_] (h:=rfl) (res1 rfl) fun _=>sg ?_
 refine o_box I rfl rfl rfl (cs:=[.bool d1.inner,.bool d1.whole]) rfl fun b _ c=>nf ?_
 refine o_p 1 rfl (en (sq ?_))
 refine wpC_drawI hmTryz c (Cl G S) [(0,.any),(1,.any),(2,.any),(3,.here),(4,.here),(5,.here),(6,.any),(7,.any),(8,.any),(9,.any),(10,.any)] (by kernel_rfl) fun _ d=>?_
 refine o_p 3 rfl (lt d 1 rfl (lta d 0 rfl (cs:=[.bool d1.inner,.bool d1.whole]) rfl (obk p fun _ f p=>?_)))
 refine o_mlook d 2 rfl hm2 f mok129 mz129 rfl rfl rfl rfl rfl ?_
 refine o_p 5 rfl (en (sq (pg rfl (obk p fun g h p=>?_))))
 refine cq (fun s w=>∃ i j k l,Inv w G ([(b,blk [.bool d1.inner,.bool d1.whole] 124)]::[(bmut,blk [u0m,u1m,i,k,u4m,u5m,u6m] 132)]::j::l::S)∧OwnM Tryz.prog 124 j i g.2.1∧OwnL 124 G l k g.2.2∧Hx s [(5,it g.1)]) ?_ ?_
 replace p:=h
 refine cd p rfl (fun p=>?_) fun p=>?_
 refine sg (o_p 3 rfl (lt d 1 rfl ?_))
 obtain ⟨m,n,rfl⟩:=OwnL.sh hm3
 refine o_p 2 rfl (en (sq ?_))
 refine wpC_drawI hmTryz d (Cl G S) [(0,.any),(1,.any),(2,.any),(3,.here),(4,.here),(5,.any),(6,.eff false)] (by kernel_rfl) fun _ o=>?_
 refine o_p 3 rfl (lt o 1 rfl (lta o 0 rfl (cs:=[.bool d1.inner,.bool d1.whole]) rfl (o_p 1 rfl (obk p fun _ t p=>?_))))
 refine o_mput o 2 rfl hm2 t mok129 rfl rfl rfl rfl rfl rfl fun u _ x y=>nf ?_
 refine en ?_
 refine wpC_drawI hmTryz y (Cl G ([(b,blk [.bool d1.inner,.bool d1.whole] 124)]::[(bmut,blk [u0m,u1m,u2m,(.slice m x3m.length n),u4m,u5m,u6m] 132)]::u::s3m::S)) [(0,.any),(1,.any),(2,.any),(3,.any),(4,.far),(5,.here),(6,.eff true),(7,.eff false),(8,.any),(9,.any),(10,.eff false)] (by kernel_rfl) fun _ z=>?_
 refine o_p 4 rfl ?_
 refine o_ltF (Cl.le z lr) (.S 1 rfl) rfl rfl rfl rfl rfl rfl ?_
 refine lta z 0 rfl (cs:=[.bool d1.inner,.bool d1.whole]) rfl ?_
 refine o_bs (l:=[d1]) (vs:=[.agg #[.bool d1.inner,.bool d1.whole]]) z ⟨a,trivial⟩ rfl rfl rfl ⟨rfl,rfl,trivial⟩ rfl elk124 rfl rfl rfl fun _ _ _ _ A B=>⟨fun _=>Cl.le (B.del 0) lr,?_⟩
 refine obk p fun _ C p=>?_
 refine o_app B 4 rfl hm3 (Lies.ofOwn A 0 rfl) C rfl rfl rfl rfl rfl rfl elk124 rfl rfl rfl rfl fun D F _ H J=>nf ?_
 refine o_p 2 rfl ?_
 refine st J 2 rfl rfl (cs:=[D]) (oneC_cells (OwnL.oneC H)) (allc (OwnL.oneC H) rfl) rfl fun _ K=>nf ?_
 cases p
 exact o_nil (⟨u2m,u,D,F,(K.del 0),x,H,hx rfl⟩)
 refine wpC_skip ?_
 cases p
 exact ⟨u2m,s2m,u3m,s3m,d,hm2,hm3,hx rfl⟩
 rintro s _ ⟨i,j,k,l,m,n,o,_,rfl⟩
 cases p
 exact nx (pg rfl (rt (⟨G,i,j,k,l,lr,(m.del 0),n,o,ri⟩)))
theorem c180 {bmut : Nat} {s2m s3m : Seg} {u0m u1m u2m u3m u4m u5m u6m v1 : Value} {x2m : Mp Int} {x3m : List Int} {d1 : Int} (I : Inv w G ([(bmut, blk [u0m, u1m, u2m, u3m, u4m, u5m, u6m] 217)] :: s2m :: s3m :: S)) {r : Int × Mp Int × List Int} (hm2 : OwnM Tryz.prog 3 s2m u2m x2m) (hm3 : OwnL 3 G s3m u3m x3m) (h1 : RepV G v1 d1) (p : t_builder_meet4 x2m x3m d1 = some r) :
 Calls Tryz.prog 180 #[.pointer (some ⟨bmut, 0, none⟩), v1] w (RV (fun v w' => ∃ G' u2' s2' u3' s3', Le G G' ∧ Inv w' G' ([(bmut, blk [u0m, u1m, u2', u3', u4m, u5m, u6m] 217)] :: s2' :: s3' :: S) ∧ OwnM Tryz.prog 3 s2' u2' r.2.1 ∧ OwnL 3 G' s3' u3' r.2.2 ∧ RepV G' v r.1)) := by
 obtain rfl:=h1.int
 refine nt (n:=40) 4 [_,_] (h:=rfl) (res1 rfl) fun _=>pg rfl (sg (o_p 3 rfl (lt I 0 rfl (o_p 1 rfl (obk p fun _ a p=>?_)))))
 refine o_mlook I 1 rfl hm2 a mok214 mz214 rfl rfl rfl rfl rfl ?_
 refine o_p 5 rfl (en (sq (pg rfl (obk p fun b c p=>?_))))
 refine cq (fun s w=>∃ d f g h,Inv w G ([(bmut,blk [u0m,u1m,d,g,u4m,u5m,u6m] 217)]::f::h::S)∧OwnM Tryz.prog 3 f d b.2.1∧OwnL 3 G h g b.2.2∧Hx s [(5,it b.1)]) ?_ ?_
 replace p:=c
 refine cd p rfl (fun p=>?_) fun p=>?_
 refine sg (o_p 3 rfl (lt I 0 rfl ?_))
 obtain ⟨_,_,rfl⟩:=OwnL.sh hm3
 refine o_p 2 rfl (en (sg (o_p 3 rfl (lt I 0 rfl (o_p 2 rfl (obk p fun _ i p=>?_))))))
 refine o_mput I 1 rfl hm2 i mok214 rfl rfl rfl rfl rfl rfl fun j _ k l=>nf ?_
 refine en (rg (o_p 4 rfl (lt l 0 rfl (o_p 1 rfl ?_))))
 refine o_bs (l:=[d1]) (vs:=[it d1]) l ⟨ri,trivial⟩ rfl rfl rfl ⟨rfl,rfl,trivial⟩ rfl elk3 rfl rfl rfl fun _ _ _ _ m n=>nf ?_
 refine obk p fun _ o p=>?_
 refine o_app n 3 rfl hm3 (Lies.ofOwn m 0 rfl) o rfl rfl rfl rfl rfl rfl elk3 rfl rfl rfl rfl fun t u _ x y=>nf ?_
 refine o_p 2 rfl ?_
 refine st y 1 rfl rfl (cs:=[t]) (oneC_cells (OwnL.oneC x)) (allc (OwnL.oneC x) rfl) rfl fun _ z=>nf ?_
 cases p
 exact o_nil (⟨u2m,j,t,u,(z.del 0),k,x,hx rfl⟩)
 refine wpC_skip ?_
 cases p
 exact ⟨u2m,s2m,u3m,s3m,I,hm2,hm3,hx rfl⟩
 rintro s _ ⟨d,f,g,h,i,j,k,_,rfl⟩
 cases p
 exact nx (pg rfl (rt (⟨G,d,f,g,h,lr,i,j,k,ri⟩)))
theorem c193 {bmut : Nat} {s2m s3m : Seg} {u0m u1m u2m u3m u4m u5m u6m v1 : Value} {x2m : Mp U64} {x3m : List U64} {d1 : U64} (I : Inv w G ([(bmut, blk [u0m, u1m, u2m, u3m, u4m, u5m, u6m] 264)] :: s2m :: s3m :: S)) {r : Int × Mp U64 × List U64} (hm2 : OwnM Tryz.prog 79 s2m u2m x2m) (hm3 : OwnL 79 G s3m u3m x3m) (h1 : RepV G v1 d1) (p : t_builder_meet6 x2m x3m d1 = some r) :
 Calls Tryz.prog 193 #[.pointer (some ⟨bmut, 0, none⟩), v1] w (RV (fun v w' => ∃ G' u2' s2' u3' s3', Le G G' ∧ Inv w' G' ([(bmut, blk [u0m, u1m, u2', u3', u4m, u5m, u6m] 264)] :: s2' :: s3' :: S) ∧ OwnM Tryz.prog 79 s2' u2' r.2.1 ∧ OwnL 79 G' s3' u3' r.2.2 ∧ RepV G' v r.1)) := by
 obtain rfl:=h1.u64
 refine nt (n:=40) 4 [_,_] (h:=rfl) (res1 rfl) fun _=>pg rfl (sg (o_p 3 rfl (lt I 0 rfl (o_p 1 rfl (obk p fun _ a p=>?_)))))
 refine o_mlook I 1 rfl hm2 a mok262 mz262 rfl rfl rfl rfl rfl ?_
 refine o_p 5 rfl (en (sq (pg rfl (obk p fun b c p=>?_))))
 refine cq (fun s w=>∃ d f g h,Inv w G ([(bmut,blk [u0m,u1m,d,g,u4m,u5m,u6m] 264)]::f::h::S)∧OwnM Tryz.prog 79 f d b.2.1∧OwnL 79 G h g b.2.2∧Hx s [(5,it b.1)]) ?_ ?_
 replace p:=c
 refine cd p rfl (fun p=>?_) fun p=>?_
 refine sg (o_p 3 rfl (lt I 0 rfl ?_))
 obtain ⟨_,_,rfl⟩:=OwnL.sh hm3
 refine o_p 2 rfl (en (sg (o_p 3 rfl (lt I 0 rfl (o_p 2 rfl (obk p fun _ i p=>?_))))))
 refine o_mput I 1 rfl hm2 i mok262 rfl rfl rfl rfl rfl rfl fun j _ k l=>nf ?_
 refine en (rg (o_p 4 rfl (lt l 0 rfl (o_p 1 rfl ?_))))
 refine o_bs (l:=[(U64.mk d1.i)]) (vs:=[.int .u64 d1.i]) l ⟨(RepV.ofU64 _ _),trivial⟩ rfl rfl rfl ⟨rfl,rfl,trivial⟩ rfl elk79 rfl rfl rfl fun _ _ _ _ m n=>nf ?_
 refine obk p fun _ o p=>?_
 refine o_app n 3 rfl hm3 (Lies.ofOwn m 0 rfl) o rfl rfl rfl rfl rfl rfl elk79 rfl rfl rfl rfl fun t u _ x y=>nf ?_
 refine o_p 2 rfl ?_
 refine st y 1 rfl rfl (cs:=[t]) (oneC_cells (OwnL.oneC x)) (allc (OwnL.oneC x) rfl) rfl fun _ z=>nf ?_
 cases p
 exact o_nil (⟨u2m,j,t,u,(z.del 0),k,x,hx rfl⟩)
 refine wpC_skip ?_
 cases p
 exact ⟨u2m,s2m,u3m,s3m,I,hm2,hm3,hx rfl⟩
 rintro s _ ⟨d,f,g,h,i,j,k,_,rfl⟩
 cases p
 exact nx (pg rfl (rt (⟨G,d,f,g,h,lr,i,j,k,ri⟩)))
theorem c40 {v0 : Value} {d0 : TreeAutomaton} (I : Inv w G S) {r : Int} (h0 : RepV G v0 d0) (p : t_Validate d0 = some r) :
 Calls Tryz.prog 40 #[v0] w (RV (Rt G S r)) := by
 have a:=h0
 obtain ⟨b,c,d,rfl,_,_,_⟩:=TreeAutomaton.unp h0
 refine nt (n:=97) 2 [_] (h:=rfl) (res1 rfl) fun _=>sg ?_
 refine o_box I rfl rfl rfl (cs:=[it d0.letters,it d0.states,b,c,d]) rfl fun f _ g=>nf ?_
 refine o_p 1 rfl (en (sq (sg (o_p 1 rfl (lt g 0 rfl (o_p 2 rfl (obk p fun h i p=>?_)))))))
 refine oq (fun s w=>Inv w G ([(f,blk [it d0.letters,it d0.states,b,c,d] 36)]::S)∧Hx s [(1,pt f),(28,.bool h)]) ?_ ?_
 replace p:=i
 refine sp 14 p rfl (fun p=>?_) fun p=>?_
 cases p
 exact o_p 14 rfl (o_nil (⟨g,hx rfl⟩))
 refine o_p 1 rfl (lt g 0 rfl (o_p 3 rfl (sp 19 p rfl (fun p=>?_) fun p=>?_)))
 cases p
 exact o_p 9 rfl (o_nil (⟨g,hx rfl⟩))
 refine o_p 1 rfl (lt g 0 rfl (o_p 3 rfl (sp 24 p rfl (fun p=>?_) fun p=>?_)))
 cases p
 exact o_p 4 rfl (o_nil (⟨g,hx rfl⟩))
 refine o_p 1 rfl (lt g 0 rfl ?_)
 cases p
 exact o_p 2 rfl (o_nil (⟨g,hx rfl⟩))
 rintro s _ ⟨j,_,rfl⟩
 refine nx (cd p rfl (fun p=>?_) fun p=>?_)
 cases p
 exact pg rfl (rt (pr (Rt.mk lr (j.del 0) ri)))
 refine sn (sg ?_)
 obtain ⟨k,l,m,n⟩:=Inv.frzB j 0 rfl a rfl
 refine o_mkf (fv:=[]) (cv:=[pt f]) rfl rfl rfl rfl rfl ?_ rfl
 refine o_p 1 rfl (en (sg ?_))
 refine o_mkf (fv:=[]) (cv:=[pt f]) rfl rfl rfl rfl rfl ?_ rfl
 refine o_p 1 rfl (en (sq (sg (o_p 1 rfl (ld m (show PtrTo _ _ d0.accept from (PtrTo.fld n 2 rfl rfl)) rfl fun _ o=>?_)))))
 obtain ⟨t,u,rfl,_⟩:=o.slice
 refine o_p 2 rfl (en (obk p fun v x p=>?_))
 refine cq (fun s w=>∃ y : Unit,∃ z,v = .inl y∧Le k z∧Inv w z S∧Hx s [(1,pt f),(3,.func (.func 86) #[] #[pt f]),(4,.func (.func 87) #[] #[pt f])]) ?_ ?_
 have A:=p
 refine bk (fun (B : Int) s w=>∃ C,Le k C∧Inv w C S∧Hx s [(1,pt f),(3,.func (.func 86) #[] #[pt f]),(4,.func (.func 87) #[] #[pt f]),(32,(.slice t d0.accept.length u)),(33,it (d0.accept.length : Int)),(34,it B)]) x ⟨k,lr,m,hx rfl⟩ ?_
 clear x
 rintro B _ s _ p ⟨C,D,F,_,rfl⟩
 refine pg rfl (sq (cd p rfl (fun p=>?_) fun p=>?_))
 refine sn (sq ?_)
 refine wpC_block ?_
 refine sg (obk p fun _ H p=>?_)
 refine o_ix (o.m D).slice H rfl rfl rfl rfl rfl rfl rfl rfl (fun _ J=>?_) rfl
 refine ld F J rfl fun _ K=>?_
 obtain rfl:=K.int
 refine o_p 1 rfl (en (sg (o_p 2 rfl (obk p fun _ M p=>?_))))
 refine ca okf87 rfl (rvb (c87 F (RepV.ofInt _ _) (PtrTo.mono D n) M) fun _ N O P=>?_)
 refine nf (o_p 1 rfl (en (cd p rfl (fun p=>?_) fun p=>?_)))
 refine pg rfl (rt (br (pr ?_)))
 cases p
 refine ⟨_,rfl,?_⟩
 rintro rfl
 have p:=A
 cases p
 exact br (pr (pr (Rt.mk ((l.t D).t O) P ri)))
 refine wpC_skip ?_
 cases p
 exact bn (nx (rg (o_p 2 rfl (o_nil (nx ⟨_,rfl,⟨N,(D.t O),P,hx rfl⟩⟩)))))
 refine ex (px ?_)
 cases p
 refine ⟨_,rfl,?_⟩
 rintro rfl
 exact bh (nx (⟨_,C,rfl,D,F,hx rfl⟩))
 rintro s _ ⟨y,z,rfl,A,B,_,rfl⟩
 refine nx (sq (sg (o_p 1 rfl (ld B (PtrTo.mono A (PtrTo.fld n 3 rfl rfl)) rfl fun _ C=>?_))))
 obtain ⟨D,F,rfl,_⟩:=C.slice
 refine o_p 2 rfl (en (obk p fun H J p=>?_))
 refine cq (fun s w=>∃ K : Unit,∃ M,H = .inl K∧Le z M∧Inv w M S∧Hx s [(1,pt f),(3,.func (.func 86) #[] #[pt f]),(4,.func (.func 87) #[] #[pt f])]) ?_ ?_
 have N:=p
 refine bk (fun (O : Int) s w=>∃ P,Le z P∧Inv w P S∧Hx s [(1,pt f),(3,.func (.func 86) #[] #[pt f]),(4,.func (.func 87) #[] #[pt f]),(44,(.slice D d0.leaves.length F)),(45,it (d0.leaves.length : Int)),(46,it O)]) J ⟨z,lr,B,hx rfl⟩ ?_
 clear J
 rintro O _ s _ p ⟨P,Q,R,_,rfl⟩
 refine pg rfl (sq (cd p rfl (fun p=>?_) fun p=>?_))
 refine sn (sq ?_)
 refine wpC_block ?_
 refine sg (obk p fun T U p=>?_)
 refine o_ix (C.m Q).slice U rfl rfl rfl rfl rfl rfl rfl rfl (fun _ V=>?_) rfl
 refine ld R V rfl fun _ W=>?_
 have _:=W
 obtain rfl:=Leaf.unp W
 refine o_alloc R rfl rfl rfl zero72 fun X _ Y=>nf ?_
 refine st Y 0 rfl rfl (cs:=[it T.letter,it T.to]) rfl rfl rfl fun _ Z=>nf ?_
 refine en (sg (o_p 2 rfl (lt Z 0 rfl (obk p fun _ a0 p=>?_))))
 refine ca okf86 rfl (rvb (c86 Z (RepV.ofInt _ _) (PtrTo.mono (A.t Q) n) a0) fun _ a1 a2 a3=>?_)
 refine nf (o_p 2 rfl (obk p fun a4 a5 p=>?_))
 refine oq (fun s w=>∃ a6,Le a1 a6∧Inv w a6 ([(X,blk [it T.letter,it T.to] 72)]::S)∧Hx s [(1,pt f),(3,.func (.func 86) #[] #[pt f]),(4,.func (.func 87) #[] #[pt f]),(44,(.slice D d0.leaves.length F)),(45,it (d0.leaves.length : Int)),(46,it O),(61,.bool a4)]) ?_ ?_
 replace p:=a5
 refine sp 55 p rfl (fun p=>?_) fun p=>?_
 refine o_p 3 rfl (o_no rfl rfl ?_)
 cases p
 exact o_p 2 rfl (o_nil (⟨a1,lr,a3,hx rfl⟩))
 refine o_p 2 rfl (lt a3 0 rfl (obk p fun _ a7 p=>?_))
 refine ca okf87 rfl (rvb (c87 a3 (RepV.ofInt _ _) (PtrTo.mono ((A.t Q).t a2) n) a7) fun _ a8 a9 b0=>?_)
 refine nf ?_
 cases p
 exact o_p 2 rfl (o_nil (⟨a8,a9,b0,hx rfl⟩))
 rintro s _ ⟨a6,a7,a8,_,rfl⟩
 refine nx (cd p rfl (fun p=>?_) fun p=>?_)
 refine pg rfl (rt (br (pr ?_)))
 cases p
 refine ⟨_,rfl,?_⟩
 rintro rfl
 have p:=N
 cases p
 exact br (pr (pr (Rt.mk ((((l.t A).t Q).t a2).t a7) (a8.del 0) ri)))
 refine wpC_skip ?_
 cases p
 exact bn (nx (rg (o_p 2 rfl (o_nil (nx ⟨_,rfl,⟨a6,((Q.t a2).t a7),(a8.del 0),hx rfl⟩⟩)))))
 refine ex (px ?_)
 cases p
 refine ⟨_,rfl,?_⟩
 rintro rfl
 exact bh (nx (⟨_,P,rfl,Q,R,hx rfl⟩))
 rintro s _ ⟨K,M,rfl,N,O,_,rfl⟩
 refine nx (sq (sg (o_p 1 rfl (ld O (PtrTo.mono (A.t N) (PtrTo.fld n 4 rfl rfl)) rfl fun _ P=>?_))))
 obtain ⟨Q,R,rfl,_⟩:=P.slice
 refine o_p 2 rfl (en (obk p fun T U p=>?_))
 refine cq (fun s w=>∃ V : Unit,∃ W,T = .inl V∧Le M W∧Inv w W S∧Hx s []) ?_ ?_
 have X:=p
 refine bk (fun (Y : Int) s w=>∃ Z,Le M Z∧Inv w Z S∧Hx s [(3,.func (.func 86) #[] #[pt f]),(4,.func (.func 87) #[] #[pt f]),(64,(.slice Q d0.branches.length R)),(65,it (d0.branches.length : Int)),(66,it Y)]) U ⟨M,lr,O,hx rfl⟩ ?_
 clear U
 rintro Y _ s _ p ⟨Z,a0,a1,_,rfl⟩
 refine pg rfl (sq (cd p rfl (fun p=>?_) fun p=>?_))
 refine sn (sq ?_)
 refine wpC_block ?_
 refine sg (obk p fun a2 a3 p=>?_)
 refine o_ix (P.m a0).slice a3 rfl rfl rfl rfl rfl rfl rfl rfl (fun _ a4=>?_) rfl
 refine ld a1 a4 rfl fun _ a5=>?_
 have _:=a5
 obtain rfl:=Branch.unp a5
 refine o_alloc a1 rfl rfl rfl zero74 fun a6 _ a7=>nf ?_
 refine st a7 0 rfl rfl (cs:=[it a2.letter,it a2.first,it a2.second,it a2.to]) rfl rfl rfl fun _ a8=>nf ?_
 refine en (sg (o_p 2 rfl (lt a8 0 rfl (obk p fun _ a9 p=>?_))))
 refine ca okf86 rfl (rvb (c86 a8 (RepV.ofInt _ _) (PtrTo.mono ((A.t N).t a0) n) a9) fun _ b0 b1 b2=>?_)
 refine nf (o_p 2 rfl (obk p fun b3 b4 p=>?_))
 refine oq (fun s w=>∃ b5,Le b0 b5∧Inv w b5 ([(a6,blk [it a2.letter,it a2.first,it a2.second,it a2.to] 74)]::S)∧Hx s [(3,.func (.func 86) #[] #[pt f]),(4,.func (.func 87) #[] #[pt f]),(64,(.slice Q d0.branches.length R)),(65,it (d0.branches.length : Int)),(66,it Y),(95,.bool b3)]) ?_ ?_
 replace p:=b4
 refine sp 75 p rfl (fun p=>?_) fun p=>?_
 refine o_p 3 rfl (o_no rfl rfl (o_p 6 rfl (o_no rfl rfl (o_p 6 rfl (o_no rfl rfl ?_)))))
 cases p
 exact o_p 2 rfl (o_nil (⟨b0,lr,b2,hx rfl⟩))
 refine o_p 2 rfl (lt b2 0 rfl (obk p fun _ b6 p=>?_))
 refine ca okf87 rfl (rvb (c87 b2 (RepV.ofInt _ _) (PtrTo.mono (((A.t N).t a0).t b1) n) b6) fun _ b7 b8 b9=>?_)
 refine nf (o_p 3 rfl (sp 82 p rfl (fun p=>?_) fun p=>?_))
 refine o_p 3 rfl (o_no rfl rfl (o_p 6 rfl (o_no rfl rfl ?_)))
 cases p
 exact o_p 2 rfl (o_nil (⟨b7,b8,b9,hx rfl⟩))
 refine o_p 2 rfl (lt b9 0 rfl (obk p fun _ e0 p=>?_))
 refine ca okf87 rfl (rvb (c87 b9 (RepV.ofInt _ _) (PtrTo.mono ((((A.t N).t a0).t b1).t b8) n) e0) fun _ e1 e2 e3=>?_)
 refine nf (o_p 3 rfl (sp 89 p rfl (fun p=>?_) fun p=>?_))
 refine o_p 3 rfl (o_no rfl rfl ?_)
 cases p
 exact o_p 2 rfl (o_nil (⟨e1,(b8.t e2),e3,hx rfl⟩))
 refine o_p 2 rfl (lt e3 0 rfl (obk p fun _ e4 p=>?_))
 refine ca okf87 rfl (rvb (c87 e3 (RepV.ofInt _ _) (PtrTo.mono (((((A.t N).t a0).t b1).t b8).t e2) n) e4) fun _ e5 e6 e7=>?_)
 refine nf ?_
 cases p
 exact o_p 2 rfl (o_nil (⟨e5,((b8.t e2).t e6),e7,hx rfl⟩))
 rintro s _ ⟨b5,b6,b7,_,rfl⟩
 refine nx (cd p rfl (fun p=>?_) fun p=>?_)
 refine pg rfl (rt (br (pr ?_)))
 cases p
 refine ⟨_,rfl,?_⟩
 rintro rfl
 have p:=X
 cases p
 exact br (pr (pr (Rt.mk (((((l.t A).t N).t a0).t b1).t b6) (b7.del 0) ri)))
 refine wpC_skip ?_
 cases p
 exact bn (nx (rg (o_p 2 rfl (o_nil (nx ⟨_,rfl,⟨b5,((a0.t b1).t b6),(b7.del 0),hx rfl⟩⟩)))))
 refine ex (px ?_)
 cases p
 refine ⟨_,rfl,?_⟩
 rintro rfl
 exact bh (nx (⟨_,Z,rfl,a0,a1,hx rfl⟩))
 rintro s _ ⟨V,W,rfl,X,Y,_,rfl⟩
 cases p
 exact nx (pg rfl (rt (Rt.mk (((l.t A).t N).t X) Y ri)))
theorem c52 {v0 : Value} {d0 : TableR} (I : Inv w G S) {r : TreeAutomaton} (h0 : RepV G v0 d0) (p : r7_canonical d0 = some r) :
 Calls Tryz.prog 52 #[v0] w (RV (Rt G S r)) := by
 have a:=h0
 obtain ⟨b,c,d,rfl,f,g,h⟩:=TableR.unp h0
 refine enterM (n:=226) (fun s w v=>RdC Tryz.prog 2 36 s w v) [_] Tryz.func52 rfl rfl rfl (resC rfl) fun _=>?_
 refine sg ?_
 refine o_box I rfl rfl rfl (cs:=[it d0.letters,b,c,d]) rfl fun i _ j=>nf ?_
 refine o_alloc j rfl rfl rfl zero36 fun k _ l=>nf ?_
 refine en (sg (lta l 1 rfl (cs:=[it d0.letters,b,c,d]) rfl (obk p fun m n p=>?_)))
 refine ca okf97 rfl (rv (c97 l a (RepV.ofInt _ _) n) fun _ _ o t u x=>?_)
 refine nf (o_p 1 rfl (en (sg (o_p 1 rfl (lt u 1 rfl ?_)))))
 refine o_bld (cs:=[(0,[it d0.letters])]) (res:=[it d0.letters,it 0,nl,nl,nl]) rfl rfl rfl zero36 (by exact ⟨rfl,rfl,trivial⟩) rfl rfl rfl ?_ rfl
 refine o_alloc u rfl rfl rfl zero36 fun y _ z=>nf ?_
 refine st z 0 rfl rfl (cs:=[it d0.letters,it 0,nl,nl,nl]) rfl rfl rfl fun _ A=>nf ?_
 refine en (sg (o_p 1 rfl ?_))
 obtain ⟨B,C,rfl,_⟩:=x.slice
 refine o_p 1 rfl (obk p fun _ D p=>?_)
 refine o_mks (z:=(0 : Int)) A D rfl rfl rfl elk3 zero3 (fun _=>by rfl) rfl rfl rfl rfl fun F H _ J K=>nf ?_
 refine o_p 1 rfl (en (sq (pg rfl (obk p fun M N p=>?_))))
 refine cq (fun s w=>∃ O P,Inv w o (P::[(y,blk [it d0.letters,it 0,nl,nl,nl] 36)]::[(k,blk [it 0,it 0,nl,nl,nl] 36)]::[(i,blk [it d0.letters,b,c,d] 98)]::S)∧OwnL 3 o P O M∧Hx s [(1,pt i),(2,pt k),(3,(.slice B m.length C)),(4,pt y),(5,O)]) ?_ ?_
 have _:=p
 refine bk (fun (Q : List Int × Int) s w=>∃ R T,Inv w o (T::[(y,blk [it d0.letters,it 0,nl,nl,nl] 36)]::[(k,blk [it 0,it 0,nl,nl,nl] 36)]::[(i,blk [it d0.letters,b,c,d] 98)]::S)∧OwnL 3 o T R Q.1∧Hx s [(1,pt i),(2,pt k),(3,(.slice B m.length C)),(4,pt y),(5,R),(6,it Q.2)]) N ⟨F,H,K,J,hx rfl⟩ ?_
 clear N
 rintro Q _ s _ p ⟨R,T,U,V,_,rfl⟩
 refine sq (sg (o_p 2 rfl ?_))
 obtain ⟨W,X,rfl⟩:=OwnL.sh V
 refine o_p 2 rfl (en (cd p rfl (fun p=>?_) fun p=>?_))
 refine sn (sq ?_)
 refine wpC_block ?_
 refine rg (o_p 2 rfl (obk p fun _ Y p=>?_))
 refine o_ixO V Y rfl rfl rfl rfl rfl rfl rfl rfl (fun _ Z=>?_) rfl
 refine o_stO U 0 rfl V Z Y ri rfl rfl rfl rfl rfl rfl rfl fun a0 _ a1 a2=>nf ?_
 cases p
 exact o_nil (bn (nx (rg (o_p 3 rfl (o_nil (nx ⟨_,rfl,⟨(.slice W Q.1.length X),a0,a2,a1,hx rfl⟩⟩))))))
 refine ex (px ?_)
 cases p
 refine ⟨_,rfl,?_⟩
 rintro rfl
 exact bh (nx (⟨(.slice W Q.1.length X),T,U,V,hx rfl⟩))
 rintro s _ ⟨O,P,Q,R,_,rfl⟩
 refine nx (pg rfl (sq (pg rfl ?_)))
 have T:=Inv.newNil Q
 refine obk p fun U V p=>?_
 refine cq (fun s w=>∃ W X Y Z,Inv w o (Z::X::[(y,blk [it d0.letters,it 0,nl,nl,nl] 36)]::[(k,blk [it 0,it 0,nl,nl,nl] 36)]::[(i,blk [it d0.letters,b,c,d] 98)]::S)∧OwnL 3 o X W U.1∧OwnL 3 o Z Y U.2∧Hx s [(1,pt i),(2,pt k),(3,(.slice B m.length C)),(4,pt y),(5,W),(7,Y)]) ?_ ?_
 have _:=p
 refine bk (fun (a0 : List Int × List Int × Int) s w=>∃ a1 a2 a3 a4,Inv w o (a4::a2::[(y,blk [it d0.letters,it 0,nl,nl,nl] 36)]::[(k,blk [it 0,it 0,nl,nl,nl] 36)]::[(i,blk [it d0.letters,b,c,d] 98)]::S)∧OwnL 3 o a2 a1 a0.1∧OwnL 3 o a4 a3 a0.2.1∧Hx s [(1,pt i),(2,pt k),(3,(.slice B m.length C)),(4,pt y),(5,a1),(7,a3),(8,it a0.2.2)]) V ⟨O,P,nl,[],T,R,(OwnL.nil (α:=Int) (G:=o) 3),hx rfl⟩ ?_
 clear V
 rintro a0 _ s _ p ⟨a1,a2,a3,a4,a5,a6,a7,_,rfl⟩
 refine sq (sg (o_p 2 rfl (lt a5 4 rfl (o_p 1 rfl (en (cd p rfl (fun p=>?_) fun p=>?_))))))
 refine sn (sq ?_)
 refine wpC_block ?_
 refine sg (o_p 3 rfl (lt a5 4 rfl (o_p 1 rfl (obk p fun _ a8 p=>?_))))
 refine o_ix (f.m t).slice a8 rfl rfl rfl rfl rfl rfl rfl rfl (fun _ a9=>?_) rfl
 refine ld a5 a9 rfl fun _ b0=>?_
 obtain rfl:=b0.int
 refine obk p fun _ b1 p=>ix x.slice b1 rfl rfl fun _ b2=>ld a5 b2 rfl fun _ b3=>?_
 obtain rfl:=b3.int
 refine obk p fun _ b4 p=>?_
 refine o_ixO a6 b4 rfl rfl rfl rfl rfl rfl rfl rfl (fun _ b5=>?_) rfl
 refine o_ldO a5 1 rfl a6 b5 b4 rfl rfl rfl rfl rfl fun _ b6=>?_
 obtain rfl:=b6.int
 refine o_p 1 rfl (en (obk p fun b7 b8 p=>?_))
 refine cq (fun s w=>∃ b9 e0 e1 e2,Inv w o (e2::e0::[(y,blk [it d0.letters,it 0,nl,nl,nl] 36)]::[(k,blk [it 0,it 0,nl,nl,nl] 36)]::[(i,blk [it d0.letters,b,c,d] 98)]::S)∧OwnL 3 o e0 b9 b7.1∧OwnL 3 o e2 e1 b7.2∧Hx s [(1,pt i),(2,pt k),(3,(.slice B m.length C)),(4,pt y),(5,b9),(7,e1),(8,it a0.2.2)]) ?_ ?_
 replace p:=b8
 refine cd p rfl (fun p=>?_) fun p=>?_
 refine sg (o_p 3 rfl (lt a5 4 rfl (o_p 1 rfl (obk p fun _ e3 p=>?_))))
 refine o_ix (f.m t).slice e3 rfl rfl rfl rfl rfl rfl rfl rfl (fun _ e4=>?_) rfl
 refine ld a5 e4 rfl fun _ e5=>?_
 obtain rfl:=e5.int
 refine obk p fun _ e6 p=>ix x.slice e6 rfl rfl fun _ e7=>ld a5 e7 rfl fun _ e8=>?_
 obtain rfl:=e8.int
 refine o_p 1 rfl ?_
 obtain ⟨_,_,rfl⟩:=OwnL.sh a7
 refine o_p 1 rfl (obk p fun _ e9 p=>?_)
 refine o_ixO a6 e9 rfl rfl rfl rfl rfl rfl rfl rfl (fun _ f0=>?_) rfl
 refine o_stO a5 1 rfl a6 f0 e9 ri rfl rfl rfl rfl rfl rfl rfl fun f1 _ f2 f3=>nf ?_
 refine en (rg (o_p 2 rfl (lt f3 4 rfl (o_p 1 rfl (obk p fun f4 f5 p=>?_)))))
 refine o_ix (f.m t).slice f5 rfl rfl rfl rfl rfl rfl rfl rfl (fun _ f6=>?_) rfl
 refine ld f3 f6 rfl fun _ f7=>?_
 obtain rfl:=f7.int
 refine o_bs (l:=[f4]) (vs:=[it f4]) f3 ⟨ri,trivial⟩ rfl rfl rfl ⟨rfl,rfl,trivial⟩ rfl elk3 rfl rfl rfl fun _ _ _ _ f8 f9=>nf ?_
 refine obk p fun _ g0 p=>?_
 refine o_app f9 1 rfl a7 (Lies.ofOwn f8 0 rfl) g0 rfl rfl rfl rfl rfl rfl elk3 rfl rfl rfl rfl fun g1 g2 _ g3 g4=>nf ?_
 cases p
 exact o_p 1 rfl (o_nil (⟨a1,f1,g1,g2,(g4.del 0),f2,g3,hx rfl⟩))
 refine wpC_skip ?_
 cases p
 exact ⟨a1,a2,a3,a4,a5,a6,a7,hx rfl⟩
 rintro s _ ⟨b9,e0,e1,e2,e3,e4,e5,_,rfl⟩
 cases p
 exact bn (nx (rg (o_p 3 rfl (o_nil (nx ⟨_,rfl,⟨b9,e0,e1,e2,e3,e4,e5,hx rfl⟩⟩)))))
 refine ex (px ?_)
 cases p
 refine ⟨_,rfl,?_⟩
 rintro rfl
 exact bh (nx (⟨a1,a2,a3,a4,a5,a6,a7,hx rfl⟩))
 rintro s _ ⟨W,X,Y,Z,a0,a1,a2,_,rfl⟩
 refine nx (pg rfl (sq (obk p fun a3 a4 p=>?_)))
 refine cq (fun s w=>∃ a5 a6 a7 a8,Inv w o (a8::a6::[(y,blk [it d0.letters,it 0,nl,nl,nl] 36)]::[(k,blk [it 0,it 0,nl,nl,nl] 36)]::[(i,blk [it d0.letters,b,c,d] 98)]::S)∧OwnL 3 o a6 a5 a3.1∧OwnL 3 o a8 a7 a3.2∧Hx s [(1,pt i),(2,pt k),(3,(.slice B m.length C)),(4,pt y),(5,a5),(7,a7)]) ?_ ?_
 have _:=p
 refine bk (fun (a9 : List Int × List Int × Int) s w=>∃ b0 b1 b2 b3,Inv w o (b3::b1::[(y,blk [it d0.letters,it 0,nl,nl,nl] 36)]::[(k,blk [it 0,it 0,nl,nl,nl] 36)]::[(i,blk [it d0.letters,b,c,d] 98)]::S)∧OwnL 3 o b1 b0 a9.1∧OwnL 3 o b3 b2 a9.2.1∧Hx s [(1,pt i),(2,pt k),(3,(.slice B m.length C)),(4,pt y),(5,b0),(7,b2),(9,it a9.2.2)]) a4 ⟨W,X,Y,Z,a0,a1,a2,hx rfl⟩ ?_
 clear a4
 rintro a9 _ s _ p ⟨b0,b1,b2,b3,b4,b5,b6,_,rfl⟩
 refine sq (sg (o_p 2 rfl ?_))
 obtain ⟨b7,b8,rfl⟩:=OwnL.sh b6
 refine o_p 2 rfl (en (cd p rfl (fun p=>?_) fun p=>?_))
 refine sn ?_
 refine wpC_block ?_
 refine pg rfl (pg rfl (pg rfl (obk p fun b9 e0 p=>?_)))
 refine cq (fun s w=>∃ e1 e2 e3 e4,Inv w o (e4::e2::[(y,blk [it d0.letters,it 0,nl,nl,nl] 36)]::[(k,blk [it 0,it 0,nl,nl,nl] 36)]::[(i,blk [it d0.letters,b,c,d] 98)]::S)∧OwnL 3 o e2 e1 b9.1∧OwnL 3 o e4 e3 b9.2∧Hx s [(1,pt i),(2,pt k),(3,(.slice B m.length C)),(4,pt y),(5,e1),(7,e3),(9,it (a9.2.1.length : Int))]) ?_ ?_
 have _:=p
 refine bk (fun (e5 : List Int × List Int × Int) s w=>∃ e6 e7 e8 e9,Inv w o (e9::e7::[(y,blk [it d0.letters,it 0,nl,nl,nl] 36)]::[(k,blk [it 0,it 0,nl,nl,nl] 36)]::[(i,blk [it d0.letters,b,c,d] 98)]::S)∧OwnL 3 o e7 e6 e5.1∧OwnL 3 o e9 e8 e5.2.1∧Hx s [(1,pt i),(2,pt k),(3,(.slice B m.length C)),(4,pt y),(5,e6),(7,e8),(9,it (a9.2.1.length : Int)),(10,it (a9.2.1.length : Int)),(11,it e5.2.2)]) e0 ⟨b0,b1,(.slice b7 a9.2.1.length b8),b3,b4,b5,b6,hx rfl⟩ ?_
 clear e0
 rintro e5 _ s _ p ⟨e6,e7,e8,e9,f0,f1,f2,_,rfl⟩
 refine sq (sg (o_p 2 rfl (lt f0 4 rfl (o_p 1 rfl (en (cd p rfl (fun p=>?_) fun p=>?_))))))
 refine sn (sq ?_)
 refine wpC_block ?_
 refine pg rfl (obk p fun f3 f4 p=>?_)
 refine cq (fun s w=>∃ f5 f6 f7 f8,Inv w o (f8::f6::[(y,blk [it d0.letters,it 0,nl,nl,nl] 36)]::[(k,blk [it 0,it 0,nl,nl,nl] 36)]::[(i,blk [it d0.letters,b,c,d] 98)]::S)∧OwnL 3 o f6 f5 f3.1∧OwnL 3 o f8 f7 f3.2∧Hx s [(1,pt i),(2,pt k),(3,(.slice B m.length C)),(4,pt y),(5,f5),(7,f7),(9,it (a9.2.1.length : Int)),(10,it (a9.2.1.length : Int)),(11,it e5.2.2)]) ?_ ?_
 have _:=p
 refine bk (fun (f9 : List Int × List Int × Int) s w=>∃ g0 g1 g2 g3,Inv w o (g3::g1::[(y,blk [it d0.letters,it 0,nl,nl,nl] 36)]::[(k,blk [it 0,it 0,nl,nl,nl] 36)]::[(i,blk [it d0.letters,b,c,d] 98)]::S)∧OwnL 3 o g1 g0 f9.1∧OwnL 3 o g3 g2 f9.2.1∧Hx s [(1,pt i),(2,pt k),(3,(.slice B m.length C)),(4,pt y),(5,g0),(7,g2),(9,it (a9.2.1.length : Int)),(10,it (a9.2.1.length : Int)),(11,it e5.2.2),(12,it f9.2.2)]) f4 ⟨e6,e7,e8,e9,f0,f1,f2,hx rfl⟩ ?_
 clear f4
 rintro f9 _ s _ p ⟨g0,g1,g2,g3,g4,g5,g6,_,rfl⟩
 refine sq (pg rfl (cd p rfl (fun p=>?_) fun p=>?_))
 refine sn (sq ?_)
 refine wpC_block ?_
 refine pg rfl (obk p fun g7 g8 p=>?_)
 refine cq (fun s w=>∃ g9 i0 i1 i2,Inv w o (i2::i0::[(y,blk [it d0.letters,it 0,nl,nl,nl] 36)]::[(k,blk [it 0,it 0,nl,nl,nl] 36)]::[(i,blk [it d0.letters,b,c,d] 98)]::S)∧OwnL 3 o i0 g9 g7.1∧OwnL 3 o i2 i1 g7.2∧Hx s [(1,pt i),(2,pt k),(3,(.slice B m.length C)),(4,pt y),(5,g9),(7,i1),(9,it (a9.2.1.length : Int)),(10,it (a9.2.1.length : Int)),(11,it e5.2.2),(12,it f9.2.2)]) ?_ ?_
 have _:=p
 refine bk (fun (i3 : List Int × List Int × Int) s w=>∃ i4 i5 i6 i7,Inv w o (i7::i5::[(y,blk [it d0.letters,it 0,nl,nl,nl] 36)]::[(k,blk [it 0,it 0,nl,nl,nl] 36)]::[(i,blk [it d0.letters,b,c,d] 98)]::S)∧OwnL 3 o i5 i4 i3.1∧OwnL 3 o i7 i6 i3.2.1∧Hx s [(1,pt i),(2,pt k),(3,(.slice B m.length C)),(4,pt y),(5,i4),(7,i6),(9,it (a9.2.1.length : Int)),(10,it (a9.2.1.length : Int)),(11,it e5.2.2),(12,it f9.2.2),(13,it i3.2.2)]) g8 ⟨g0,g1,g2,g3,g4,g5,g6,hx rfl⟩ ?_
 clear g8
 rintro i3 _ s _ p ⟨i4,i5,i6,i7,i8,i9,j0,_,rfl⟩
 refine sq (pg rfl (cd p rfl (fun p=>?_) fun p=>?_))
 refine sn (sq ?_)
 refine wpC_block ?_
 refine sq ?_
 refine wpC_drawI hmTryz i8 (Cl o S) [(0,.any),(1,.here),(2,.any),(3,.any),(4,.here),(5,.any),(6,.any),(7,.any),(8,.here),(9,.any),(10,.here),(11,.any),(12,.any),(13,.any),(14,.here),(15,.any),(16,.here),(17,.any)] (by kernel_rfl) fun _ j1=>?_
 refine o_p 1 rfl (lt j1 4 rfl (o_p 1 rfl (obk p fun _ j2 p=>?_)))
 refine o_ix (g.m t).slice j2 rfl rfl rfl rfl rfl rfl rfl rfl (fun _ j3=>?_) rfl
 refine ld j1 j3 rfl fun _ j4=>o_p 2 rfl (obk p fun _ j5 p=>?_)
 refine o_ixO j0 j5 rfl rfl rfl rfl rfl rfl rfl rfl (fun _ j6=>?_) rfl
 refine o_ldO j1 0 rfl j0 j6 j5 rfl rfl rfl rfl rfl fun _ j7=>?_
 obtain rfl:=j7.int
 refine obk p fun _ j8 p=>ix j4.slice j8 rfl rfl fun _ j9=>ld j1 j9 rfl fun _ k0=>o_p 2 rfl (obk p fun _ k1 p=>?_)
 refine o_ixO j0 k1 rfl rfl rfl rfl rfl rfl rfl rfl (fun _ k2=>?_) rfl
 refine o_ldO j1 0 rfl j0 k2 k1 rfl rfl rfl rfl rfl fun _ k3=>?_
 obtain rfl:=k3.int
 refine obk p fun k4 k5 p=>ix k0.slice k5 rfl rfl fun _ k6=>ld j1 k6 rfl fun _ k7=>?_
 obtain rfl:=k7.int
 refine o_p 1 rfl (en (sg (o_p 3 rfl (obk p fun _ k8 p=>ix x.slice k8 rfl rfl fun _ k9=>ld j1 k9 rfl fun _ m0=>?_))))
 obtain rfl:=m0.int
 refine obk p fun _ m1 p=>?_
 refine o_ixO i9 m1 rfl rfl rfl rfl rfl rfl rfl rfl (fun _ m2=>?_) rfl
 refine o_ldO j1 1 rfl i9 m2 m1 rfl rfl rfl rfl rfl fun _ m3=>?_
 obtain rfl:=m3.int
 refine o_p 1 rfl (en (obk p fun m4 m5 p=>?_))
 refine cq (fun s w=>∃ m6 m7 m8 m9,Inv w o (m9::m7::[(y,blk [it d0.letters,it 0,nl,nl,nl] 36)]::[(k,blk [it 0,it 0,nl,nl,nl] 36)]::[(i,blk [it d0.letters,b,c,d] 98)]::S)∧OwnL 3 o m7 m6 m4.1∧OwnL 3 o m9 m8 m4.2∧Hx s [(1,pt i),(2,pt k),(3,(.slice B m.length C)),(4,pt y),(5,m6),(7,m8),(9,it (a9.2.1.length : Int)),(10,it (a9.2.1.length : Int)),(11,it e5.2.2),(12,it f9.2.2),(13,it i3.2.2)]) ?_ ?_
 replace p:=m5
 refine cd p rfl (fun p=>?_) fun p=>?_
 refine sg (o_p 3 rfl (obk p fun _ n0 p=>ix x.slice n0 rfl rfl fun _ n1=>ld j1 n1 rfl fun _ n2=>?_))
 obtain rfl:=n2.int
 refine o_p 1 rfl ?_
 obtain ⟨_,_,rfl⟩:=OwnL.sh j0
 refine o_p 1 rfl (obk p fun _ n3 p=>?_)
 refine o_ixO i9 n3 rfl rfl rfl rfl rfl rfl rfl rfl (fun _ n4=>?_) rfl
 refine o_stO j1 1 rfl i9 n4 n3 ri rfl rfl rfl rfl rfl rfl rfl fun n5 _ n6 n7=>nf ?_
 refine en (rg (o_p 2 rfl ?_))
 refine o_bs (l:=[k4]) (vs:=[it k4]) n7 ⟨ri,trivial⟩ rfl rfl rfl ⟨rfl,rfl,trivial⟩ rfl elk3 rfl rfl rfl fun _ _ _ _ n8 n9=>nf ?_
 refine obk p fun _ o0 p=>?_
 refine o_app n9 1 rfl j0 (Lies.ofOwn n8 0 rfl) o0 rfl rfl rfl rfl rfl rfl elk3 rfl rfl rfl rfl fun o1 o2 _ o3 o4=>nf ?_
 cases p
 exact o_p 1 rfl (o_nil (⟨i4,n5,o1,o2,(o4.del 0),n6,o3,hx rfl⟩))
 refine wpC_skip ?_
 cases p
 exact ⟨i4,i5,i6,i7,j1,i9,j0,hx rfl⟩
 rintro s _ ⟨m6,m7,m8,m9,n0,n1,n2,_,rfl⟩
 cases p
 exact bn (nx (rg (o_p 3 rfl (o_nil (nx ⟨_,rfl,⟨m6,m7,m8,m9,n0,n1,n2,hx rfl⟩⟩)))))
 refine ex (px ?_)
 cases p
 refine ⟨_,rfl,?_⟩
 rintro rfl
 exact bh (nx (⟨i4,i5,i6,i7,i8,i9,j0,hx rfl⟩))
 rintro s _ ⟨g9,i0,i1,i2,i3,i4,i5,_,rfl⟩
 cases p
 exact bn (nx (rg (o_p 3 rfl (o_nil (nx ⟨_,rfl,⟨g9,i0,i1,i2,i3,i4,i5,hx rfl⟩⟩)))))
 refine ex (px ?_)
 cases p
 refine ⟨_,rfl,?_⟩
 rintro rfl
 exact bh (nx (⟨g0,g1,g2,g3,g4,g5,g6,hx rfl⟩))
 rintro s _ ⟨f5,f6,f7,f8,f9,g0,g1,_,rfl⟩
 cases p
 exact bn (nx (rg (o_p 3 rfl (o_nil (nx ⟨_,rfl,⟨f5,f6,f7,f8,f9,g0,g1,hx rfl⟩⟩)))))
 refine ex (px ?_)
 cases p
 refine ⟨_,rfl,?_⟩
 rintro rfl
 exact bh (nx (⟨e6,e7,e8,e9,f0,f1,f2,hx rfl⟩))
 rintro s _ ⟨e1,e2,e3,e4,e5,e6,e7,_,rfl⟩
 cases p
 exact bn (nx ⟨_,rfl,⟨e1,e2,e3,e4,e5,e6,e7,hx rfl⟩⟩)
 refine ex (px ?_)
 cases p
 refine ⟨_,rfl,?_⟩
 rintro rfl
 exact bh (nx (⟨b0,b1,(.slice b7 a9.2.1.length b8),b3,b4,b5,b6,hx rfl⟩))
 rintro s _ ⟨a5,a6,a7,a8,a9,b0,b1,_,rfl⟩
 refine nx (sg (o_p 1 rfl ?_))
 obtain ⟨b2,b3,rfl⟩:=OwnL.sh b1
 refine o_p 2 rfl ?_
 refine st a9 2 rfl rfl (cs:=[it (a3.2.length : Int)]) rfl rfl rfl fun _ b4=>nf ?_
 refine en (sq (pg rfl ?_))
 have b5:=Inv.newNil b4
 refine obk p fun b6 b7 p=>?_
 refine cq (fun s w=>∃ b8 b9,Inv w o (b9::a8::a6::[(y,blk [it d0.letters,it (a3.2.length : Int),b8,nl,nl] 36)]::[(k,blk [it 0,it 0,nl,nl,nl] 36)]::[(i,blk [it d0.letters,b,c,d] 98)]::S)∧OwnL 3 o b9 b8 b6∧Hx s [(1,pt i),(2,pt k),(3,(.slice B m.length C)),(4,pt y),(5,a5),(7,(.slice b2 a3.2.length b3))]) ?_ ?_
 have _:=p
 refine bk (fun (e0 : Int × List Int) s w=>∃ e1 e2,Inv w o (e2::a8::a6::[(y,blk [it d0.letters,it (a3.2.length : Int),e1,nl,nl] 36)]::[(k,blk [it 0,it 0,nl,nl,nl] 36)]::[(i,blk [it d0.letters,b,c,d] 98)]::S)∧OwnL 3 o e2 e1 e0.2∧Hx s [(1,pt i),(2,pt k),(3,(.slice B m.length C)),(4,pt y),(5,a5),(7,(.slice b2 a3.2.length b3)),(15,it e0.1)]) b7 ⟨nl,[],b5,(OwnL.nil (α:=Int) (G:=o) 3),hx rfl⟩ ?_
 clear b7
 rintro e0 _ s _ p ⟨e1,e2,e3,e4,_,rfl⟩
 refine sq (pg rfl (cd p rfl (fun p=>?_) fun p=>?_))
 refine sn (sq ?_)
 refine wpC_block ?_
 refine sq ?_
 refine wpC_drawI hmTryz e3 (Cl o S) [(0,.any),(1,.here),(2,.any),(3,.any),(4,.any),(5,.here),(6,.any),(7,.here)] (by kernel_rfl) fun _ e5=>?_
 refine o_p 1 rfl (lt e5 5 rfl (o_p 2 rfl (obk p fun _ e6 p=>?_)))
 refine o_ixO b1 e6 rfl rfl rfl rfl rfl rfl rfl rfl (fun _ e7=>?_) rfl
 refine o_ldO e5 1 rfl b1 e7 e6 rfl rfl rfl rfl rfl fun _ e8=>?_
 obtain rfl:=e8.int
 refine obk p fun _ e9 p=>?_
 refine o_ix (h.m t).slice e9 rfl rfl rfl rfl rfl rfl rfl rfl (fun _ f0=>?_) rfl
 refine ld e5 f0 rfl fun _ f1=>?_
 obtain rfl:=f1.bool
 refine en (obk p fun f2 f3 p=>?_)
 refine cq (fun s w=>∃ f4 f5,Inv w o (f5::a8::a6::[(y,blk [it d0.letters,it (a3.2.length : Int),f4,nl,nl] 36)]::[(k,blk [it 0,it 0,nl,nl,nl] 36)]::[(i,blk [it d0.letters,b,c,d] 98)]::S)∧OwnL 3 o f5 f4 f2∧Hx s [(1,pt i),(2,pt k),(3,(.slice B m.length C)),(4,pt y),(5,a5),(7,(.slice b2 a3.2.length b3)),(15,it e0.1)]) ?_ ?_
 replace p:=f3
 refine cd p rfl (fun p=>?_) fun p=>?_
 refine rg (o_p 1 rfl (lt e5 3 rfl (o_p 1 rfl ?_)))
 refine o_bs (l:=[e0.1]) (vs:=[it e0.1]) e5 ⟨ri,trivial⟩ rfl rfl rfl ⟨rfl,rfl,trivial⟩ rfl elk3 rfl rfl rfl fun _ _ _ _ f6 f7=>nf ?_
 refine obk p fun _ f8 p=>?_
 refine o_app f7 1 rfl e4 (Lies.ofOwn f6 0 rfl) f8 rfl rfl rfl rfl rfl rfl elk3 rfl rfl rfl rfl fun f9 g0 _ g1 g2=>nf ?_
 refine o_p 1 rfl ?_
 refine st g2 4 rfl rfl (cs:=[f9]) (oneC_cells (OwnL.oneC g1)) (allc (OwnL.oneC g1) rfl) rfl fun _ g3=>nf ?_
 cases p
 exact o_nil (⟨f9,g0,(g3.del 0),g1,hx rfl⟩)
 refine wpC_skip ?_
 cases p
 exact ⟨e1,e2,e5,e4,hx rfl⟩
 rintro s _ ⟨f4,f5,f6,f7,_,rfl⟩
 cases p
 exact bn (nx (rg (o_p 3 rfl (o_nil (nx ⟨_,rfl,⟨f4,f5,f6,f7,hx rfl⟩⟩)))))
 refine ex (px ?_)
 cases p
 refine ⟨_,rfl,?_⟩
 rintro rfl
 exact bh (nx (⟨e1,e2,e3,e4,hx rfl⟩))
 rintro s _ ⟨b8,b9,e0,e1,_,rfl⟩
 refine nx (sq (pg rfl ?_))
 have e2:=Inv.newNil e0
 have e3:=Inv.newNil e2
 refine obk p fun e4 e5 p=>?_
 refine cq (fun s w=>∃ e6 e7 e8 e9,Inv w o (e9::e7::b9::a8::a6::[(y,blk [it d0.letters,it (a3.2.length : Int),b8,e6,e8] 36)]::[(k,blk [it 0,it 0,nl,nl,nl] 36)]::[(i,blk [it d0.letters,b,c,d] 98)]::S)∧OwnL 72 o e7 e6 e4.1∧OwnL 74 o e9 e8 e4.2∧Hx s [(2,pt k),(4,pt y)]) ?_ ?_
 have _:=p
 refine bk (fun (f0 : Int × List Leaf × List Branch) s w=>∃ f1 f2 f3 f4,Inv w o (f4::f2::b9::a8::a6::[(y,blk [it d0.letters,it (a3.2.length : Int),b8,f1,f3] 36)]::[(k,blk [it 0,it 0,nl,nl,nl] 36)]::[(i,blk [it d0.letters,b,c,d] 98)]::S)∧OwnL 72 o f2 f1 f0.2.1∧OwnL 74 o f4 f3 f0.2.2∧Hx s [(1,pt i),(2,pt k),(3,(.slice B m.length C)),(4,pt y),(5,a5),(7,(.slice b2 a3.2.length b3)),(16,it f0.1)]) e5 ⟨nl,[],nl,[],e3,(OwnL.nil (α:=Leaf) (G:=o) 72),(OwnL.nil (α:=Branch) (G:=o) 74),hx rfl⟩ ?_
 clear e5
 rintro f0 _ s _ p ⟨f1,f2,f3,f4,f5,f6,f7,_,rfl⟩
 refine sq (sg (o_p 2 rfl (lt f5 7 rfl (o_p 1 rfl (en (cd p rfl (fun p=>?_) fun p=>?_))))))
 refine sn (sq ?_)
 refine wpC_block ?_
 refine sq ?_
 refine wpC_drawI hmTryz f5 (Cl o (f4::f2::b9::a8::a6::[(y,blk [it d0.letters,it (a3.2.length : Int),b8,f1,f3] 36)]::[(k,blk [it 0,it 0,nl,nl,nl] 36)]::[(i,blk [it d0.letters,b,c,d] 98)]::S)) [(0,.any),(1,.far),(2,.any),(3,.any),(4,.any),(5,.any),(6,.here),(7,.any),(8,.any),(9,.here),(10,.any),(11,.here),(12,.any),(13,.here),(14,.any),(15,.eff true),(16,.eff false),(17,.any),(18,.eff false)] (by kernel_rfl) fun _ f8=>?_
 refine o_p 1 rfl ?_
 refine o_ltF (Cl.le f8 lr) (.S 5 rfl) rfl rfl rfl rfl rfl rfl ?_
 refine o_p 4 rfl (lt f8 7 rfl (o_p 1 rfl (obk p fun _ f9 p=>?_)))
 refine o_ix (f.m t).slice f9 rfl rfl rfl rfl rfl rfl rfl rfl (fun _ g0=>?_) rfl
 refine ld f8 g0 rfl fun _ g1=>?_
 obtain rfl:=g1.int
 refine obk p fun _ g2 p=>ix x.slice g2 rfl rfl fun _ g3=>ld f8 g3 rfl fun _ g4=>?_
 obtain rfl:=g4.int
 refine obk p fun g5 g6 p=>?_
 refine o_ixO b0 g6 rfl rfl rfl rfl rfl rfl rfl rfl (fun _ g7=>?_) rfl
 refine o_ldO f8 4 rfl b0 g7 g6 rfl rfl rfl rfl rfl fun _ g8=>?_
 obtain rfl:=g8.int
 refine o_bld (cs:=[(0,[it f0.1]),(1,[it g5])]) (res:=[it f0.1,it g5]) rfl rfl rfl zero72 (by exact ⟨rfl,rfl,⟨rfl,rfl,trivial⟩⟩) rfl rfl rfl ?_ rfl
 refine o_bs (l:=[(⟨f0.1,g5⟩ : Leaf)]) (vs:=[.agg #[it f0.1,it g5]]) f8 ⟨(Leaf.pk (⟨f0.1,g5⟩ : Leaf)),trivial⟩ rfl rfl rfl ⟨rfl,rfl,trivial⟩ rfl elk72 rfl rfl rfl fun g9 _ i0 _ i1 i2=>⟨fun _=>Cl.le (i2.del 0) lr,?_⟩
 refine obk p fun _ i3 p=>?_
 refine o_app i2 2 rfl f6 (Lies.ofOwn i1 0 rfl) i3 rfl rfl rfl rfl rfl rfl elk72 rfl rfl rfl rfl fun i4 i5 _ i6 i7=>nf ?_
 refine o_p 1 rfl ?_
 refine st i7 6 rfl rfl (cs:=[i4]) (oneC_cells (OwnL.oneC i6)) (allc (OwnL.oneC i6) rfl) rfl fun _ i8=>nf ?_
 refine en (pg rfl (obk p fun i9 j0 p=>?_))
 refine cq (fun s w=>∃ j1 j2,Inv w o ([(g9,blk i0 72)]::j2::i5::b9::a8::a6::[(y,blk [it d0.letters,it (a3.2.length : Int),b8,i4,j1] 36)]::[(k,blk [it 0,it 0,nl,nl,nl] 36)]::[(i,blk [it d0.letters,b,c,d] 98)]::S)∧OwnL 74 o j2 j1 i9∧Hx s [(1,pt i),(2,pt k),(3,(.slice B m.length C)),(4,pt y),(5,a5),(7,(.slice b2 a3.2.length b3)),(16,it f0.1)]) ?_ ?_
 have _:=p
 refine bk (fun (j3 : Int × List Branch) s w=>∃ j4 j5,Inv w o ([(g9,blk i0 72)]::j5::i5::b9::a8::a6::[(y,blk [it d0.letters,it (a3.2.length : Int),b8,i4,j4] 36)]::[(k,blk [it 0,it 0,nl,nl,nl] 36)]::[(i,blk [it d0.letters,b,c,d] 98)]::S)∧OwnL 74 o j5 j4 j3.2∧Hx s [(1,pt i),(2,pt k),(3,(.slice B m.length C)),(4,pt y),(5,a5),(7,(.slice b2 a3.2.length b3)),(16,it f0.1),(17,it j3.1)]) j0 ⟨f3,f4,i8,f7,hx rfl⟩ ?_
 clear j0
 rintro j3 _ s _ p ⟨j4,j5,j6,j7,_,rfl⟩
 refine sq (pg rfl (cd p rfl (fun p=>?_) fun p=>?_))
 refine sn (sq ?_)
 refine wpC_block ?_
 refine pg rfl (obk p fun j8 j9 p=>?_)
 refine cq (fun s w=>∃ k0 k1,Inv w o ([(g9,blk i0 72)]::k1::i5::b9::a8::a6::[(y,blk [it d0.letters,it (a3.2.length : Int),b8,i4,k0] 36)]::[(k,blk [it 0,it 0,nl,nl,nl] 36)]::[(i,blk [it d0.letters,b,c,d] 98)]::S)∧OwnL 74 o k1 k0 j8∧Hx s [(1,pt i),(2,pt k),(3,(.slice B m.length C)),(4,pt y),(5,a5),(7,(.slice b2 a3.2.length b3)),(16,it f0.1),(17,it j3.1)]) ?_ ?_
 have _:=p
 refine bk (fun (k2 : Int × List Branch) s w=>∃ k3 k4,Inv w o ([(g9,blk i0 72)]::k4::i5::b9::a8::a6::[(y,blk [it d0.letters,it (a3.2.length : Int),b8,i4,k3] 36)]::[(k,blk [it 0,it 0,nl,nl,nl] 36)]::[(i,blk [it d0.letters,b,c,d] 98)]::S)∧OwnL 74 o k4 k3 k2.2∧Hx s [(1,pt i),(2,pt k),(3,(.slice B m.length C)),(4,pt y),(5,a5),(7,(.slice b2 a3.2.length b3)),(16,it f0.1),(17,it j3.1),(18,it k2.1)]) j9 ⟨j4,j5,j6,j7,hx rfl⟩ ?_
 clear j9
 rintro k2 _ s _ p ⟨k3,k4,k5,k6,_,rfl⟩
 refine sq (pg rfl (cd p rfl (fun p=>?_) fun p=>?_))
 refine sn (sq ?_)
 refine wpC_block ?_
 refine wpC_drawI hmTryz k5 (Cl o ([(g9,blk i0 72)]::k4::i5::b9::a8::a6::[(y,blk [it d0.letters,it (a3.2.length : Int),b8,i4,k3] 36)]::[(k,blk [it 0,it 0,nl,nl,nl] 36)]::[(i,blk [it d0.letters,b,c,d] 98)]::S)) [(0,.any),(1,.far),(2,.any),(3,.any),(4,.any),(5,.any),(6,.any),(7,.any),(8,.here),(9,.any),(10,.any),(11,.here),(12,.any),(13,.any),(14,.any),(15,.here),(16,.any),(17,.here),(18,.any),(19,.any),(20,.any),(21,.here),(22,.any),(23,.here),(24,.any),(25,.here),(26,.any),(27,.here),(28,.any),(29,.eff true),(30,.eff false),(31,.any),(32,.eff false)] (by kernel_rfl) fun _ k7=>?_
 refine o_p 1 rfl ?_
 refine o_ltF (Cl.le k7 lr) (.S 6 rfl) rfl rfl rfl rfl rfl rfl ?_
 refine o_p 6 rfl (lt k7 8 rfl (o_p 1 rfl (obk p fun _ k8 p=>?_)))
 refine o_ix (g.m t).slice k8 rfl rfl rfl rfl rfl rfl rfl rfl (fun _ k9=>?_) rfl
 refine ld k7 k9 rfl fun _ m0=>o_p 2 rfl (obk p fun _ m1 p=>?_)
 refine o_ixO b1 m1 rfl rfl rfl rfl rfl rfl rfl rfl (fun _ m2=>?_) rfl
 refine o_ldO k7 4 rfl b1 m2 m1 rfl rfl rfl rfl rfl fun _ m3=>?_
 obtain rfl:=m3.int
 refine obk p fun _ m4 p=>ix m0.slice m4 rfl rfl fun _ m5=>ld k7 m5 rfl fun _ m6=>o_p 2 rfl (obk p fun _ m7 p=>?_)
 refine o_ixO b1 m7 rfl rfl rfl rfl rfl rfl rfl rfl (fun _ m8=>?_) rfl
 refine o_ldO k7 4 rfl b1 m8 m7 rfl rfl rfl rfl rfl fun _ m9=>?_
 obtain rfl:=m9.int
 refine obk p fun _ n0 p=>ix m6.slice n0 rfl rfl fun _ n1=>ld k7 n1 rfl fun _ n2=>?_
 obtain rfl:=n2.int
 refine obk p fun _ n3 p=>ix x.slice n3 rfl rfl fun _ n4=>ld k7 n4 rfl fun _ n5=>?_
 obtain rfl:=n5.int
 refine obk p fun n6 n7 p=>?_
 refine o_ixO b0 n7 rfl rfl rfl rfl rfl rfl rfl rfl (fun _ n8=>?_) rfl
 refine o_ldO k7 5 rfl b0 n8 n7 rfl rfl rfl rfl rfl fun _ n9=>?_
 obtain rfl:=n9.int
 refine o_bld (cs:=[(0,[it f0.1]),(1,[it j3.1]),(2,[it k2.1]),(3,[it n6])]) (res:=[it f0.1,it j3.1,it k2.1,it n6]) rfl rfl rfl zero74 (by exact ⟨rfl,rfl,⟨rfl,rfl,⟨rfl,rfl,⟨rfl,rfl,trivial⟩⟩⟩⟩) rfl rfl rfl ?_ rfl
 refine o_bs (l:=[(⟨f0.1,j3.1,k2.1,n6⟩ : Branch)]) (vs:=[.agg #[it f0.1,it j3.1,it k2.1,it n6]]) k7 ⟨(Branch.pk (⟨f0.1,j3.1,k2.1,n6⟩ : Branch)),trivial⟩ rfl rfl rfl ⟨rfl,rfl,trivial⟩ rfl elk74 rfl rfl rfl fun _ _ _ _ o0 o1=>⟨fun _=>Cl.le (o1.del 0) lr,?_⟩
 refine obk p fun _ o2 p=>?_
 refine o_app o1 2 rfl k6 (Lies.ofOwn o0 0 rfl) o2 rfl rfl rfl rfl rfl rfl elk74 rfl rfl rfl rfl fun o3 o4 _ o5 o6=>nf ?_
 refine o_p 1 rfl ?_
 refine st o6 7 rfl rfl (cs:=[o3]) (oneC_cells (OwnL.oneC o5)) (allc (OwnL.oneC o5) rfl) rfl fun _ o7=>nf ?_
 cases p
 exact o_nil (bn (nx (rg (o_p 3 rfl (o_nil (nx ⟨_,rfl,⟨o3,o4,(o7.del 0),o5,hx rfl⟩⟩))))))
 refine ex (px ?_)
 cases p
 refine ⟨_,rfl,?_⟩
 rintro rfl
 exact bh (nx (⟨k3,k4,k5,k6,hx rfl⟩))
 rintro s _ ⟨k0,k1,k2,k3,_,rfl⟩
 cases p
 exact bn (nx (rg (o_p 3 rfl (o_nil (nx ⟨_,rfl,⟨k0,k1,k2,k3,hx rfl⟩⟩)))))
 refine ex (px ?_)
 cases p
 refine ⟨_,rfl,?_⟩
 rintro rfl
 exact bh (nx (⟨j4,j5,j6,j7,hx rfl⟩))
 rintro s _ ⟨j1,j2,j3,j4,_,rfl⟩
 cases p
 exact bn (nx (rg (o_p 3 rfl (o_nil (nx ⟨_,rfl,⟨i4,i5,j1,j2,(j3.del 0),i6,j4,hx rfl⟩⟩)))))
 refine ex (px ?_)
 cases p
 refine ⟨_,rfl,?_⟩
 rintro rfl
 exact bh (nx (⟨f1,f2,f3,f4,f5,f6,f7,hx rfl⟩))
 rintro s _ ⟨e6,e7,e8,e9,f0,f1,f2,_,rfl⟩
 refine nx (sg (lta f0 5 rfl (cs:=[it d0.letters,it (a3.2.length : Int),b8,e6,e8]) rfl ?_))
 refine st f0 6 rfl rfl (cs:=[it d0.letters,it (a3.2.length : Int),b8,e6,e8]) rfl (allc rfl (allc rfl (allc (OwnL.oneC e1) (allc (OwnL.oneC f1) (allc (OwnL.oneC f2) rfl))))) rfl fun _ f3=>nf ?_
 refine en (rt ?_)
 obtain ⟨_,f4,f5,f6⟩:=Inv.frz f3 2 rfl e1
 obtain ⟨_,f7,f8,f9⟩:=Inv.frz f5 1 rfl (OwnL.mono f4 f1)
 obtain ⟨_,g0,g1,g2⟩:=Inv.frz f8 0 rfl (OwnL.mono (f4.t f7) f2)
 cases p
 exact ⟨_,RdC.mk g1 (.S 3 rfl) rfl rfl,Rt.mk (((t.t f4).t f7).t g0) (((((g1.del 4).del 3).del 2).del 1).del 0) (TreeAutomaton.pk (⟨d0.letters,(a3.2.length : Int),b6,e4.1,e4.2⟩ : TreeAutomaton) (f6.m (f7.t g0)) (f9.m g0) g2)⟩
theorem c183 {v0 v1 : Value} {d0 : Protocol} {d1 : Int} (I : Inv w G S) {r : Int} (h0 : RepV G v0 d0) (h1 : RepV G v1 d1) (p : r2_rule d0 d1 = some r) :
 Calls Tryz.prog 183 #[v0, v1] w (RV (Rt G S r)) := by
 have a:=h0
 obtain ⟨b,c,d,f,g,h,i,rfl,j,k,l,_,_,_,m⟩:=Protocol.unp h0
 obtain rfl:=h1.int
 refine nt (n:=276) 4 [_,_] (h:=rfl) (res1 rfl) fun _=>sg ?_
 refine o_box I rfl rfl rfl (cs:=[.string d0.name,it d0.topology,b,c,d,it d0.fault,f,g,h,i]) rfl fun n _ o=>nf ?_
 refine o_p 1 rfl (en (sq ?_))
 refine wpC_drawI hmTryz o (Cl G ([(n,blk [.string d0.name,it d0.topology,b,c,d,it d0.fault,f,g,h,i] 27)]::S)) [(0,.any),(1,.far),(2,.any),(3,.any),(4,.far),(5,.any),(6,.far),(7,.any),(8,.eff true),(9,.eff true),(10,.any)] (by kernel_rfl) fun _ t=>?_
 refine o_p 1 rfl ?_
 refine o_ltF (Cl.le t lr) (.S 0 rfl) rfl rfl rfl rfl rfl rfl ?_
 refine o_p 1 rfl (obk p fun u v p=>ix m.slice v rfl rfl fun _ x=>?_)
 refine o_ldF (Cl.le t lr) x rfl rfl rfl rfl rfl fun _ y=>?_
 have z:=y
 obtain ⟨A,B,C,D,F,H,J,K,rfl,M,N,O,P,Q,R,T,U⟩:=Rule.unp y
 refine o_p 1 rfl ?_
 refine o_ltF (Cl.le t lr) (.S 0 rfl) rfl rfl rfl rfl rfl rfl ?_
 obtain ⟨V,W,rfl,_⟩:=j.slice
 refine o_p 1 rfl ?_
 refine o_alloc t rfl rfl rfl zero93 fun X _ Y=>⟨fun _=>Cl.le (Y.del 0) lr,?_⟩
 refine st Y 0 rfl rfl (cs:=[.string u.name,it u.kind,it u.frm,it u.to,it u.partnerFrom,it u.partnerTo,A,B,C,D,it u.read,it u.write,F,it u.at_,H,J,K,it u.direction]) rfl (allc rfl (allc rfl (allc rfl (allc rfl (allc rfl (allc rfl (allc (RepV.one1 M rfl) (allc (RepV.one1 N rfl) (allc (RepV.one1 O rfl) (allc (RepV.one1 P rfl) (allc rfl (allc rfl (allc (RepV.one1 Q rfl) (allc rfl (allc (RepV.one1 R rfl) (allc (RepV.one1 T rfl) (allc (RepV.one1 U rfl) (allc rfl rfl)))))))))))))))))) rfl fun _ Z=>⟨fun _=>Cl.le (Z.del 0) lr,?_⟩
 refine o_p 1 rfl (en (sq (sg (o_p 1 rfl (lt Z 0 rfl (obk p fun _ a0 p=>?_))))))
 refine ca okf132 rfl (rvb (c132 Z (RepV.ofStr _ _) a0) fun _ a1 a2 a3=>?_)
 refine nf (o_p 1 rfl (en (cd p rfl (fun p=>?_) fun p=>?_)))
 cases p
 exact pg rfl (rt (pr (Rt.mk a2 ((a3.del 1).del 0) ri)))
 refine sn (sq (pg rfl (obk p fun a4 a5 p=>?_)))
 refine cq (fun s w=>∃ a6 : Unit,a4 = .inl a6∧Inv w a1 ([(X,blk [.string u.name,it u.kind,it u.frm,it u.to,it u.partnerFrom,it u.partnerTo,A,B,C,D,it u.read,it u.write,F,it u.at_,H,J,K,it u.direction] 93)]::[(n,blk [.string d0.name,it d0.topology,(.slice V d0.states.length W),c,d,it d0.fault,f,g,h,i] 27)]::S)∧Hx s [(2,pt n),(5,pt X),(6,it (d0.states.length : Int))]) ?_ ?_
 have a7:=p
 refine bk (fun (a8 : Int) s w=>Inv w a1 ([(X,blk [.string u.name,it u.kind,it u.frm,it u.to,it u.partnerFrom,it u.partnerTo,A,B,C,D,it u.read,it u.write,F,it u.at_,H,J,K,it u.direction] 93)]::[(n,blk [.string d0.name,it d0.topology,(.slice V d0.states.length W),c,d,it d0.fault,f,g,h,i] 27)]::S)∧Hx s [(1,it d1),(2,pt n),(5,pt X),(6,it (d0.states.length : Int)),(7,it a8)]) a5 ⟨a3,hx rfl⟩ ?_
 clear a5
 rintro a8 _ s _ p ⟨a9,_,rfl⟩
 refine sq (pg rfl (cd p rfl (fun p=>?_) fun p=>?_))
 refine sn (sq ?_)
 refine wpC_block ?_
 refine sq ?_
 refine wpC_drawI hmTryz a9 (Cl a1 S) [(0,.any),(1,.here),(2,.any),(3,.any),(4,.any),(5,.here),(6,.any),(7,.here),(8,.any)] (by kernel_rfl) fun _ b0=>?_
 refine o_p 1 rfl (lt b0 1 rfl (o_p 1 rfl (obk p fun b1 b2 p=>?_)))
 refine o_ix (m.m a2).slice b2 rfl rfl rfl rfl rfl rfl rfl rfl (fun _ b3=>?_) rfl
 refine o_p 1 rfl (ld b0 (show PtrTo _ _ b1.name from (PtrTo.fld b3 0 rfl rfl)) rfl fun _ b4=>?_)
 obtain rfl:=b4.str
 refine o_p 1 rfl (lt b0 0 rfl (o_p 1 rfl (en (cd p rfl (fun p=>?_) fun p=>?_))))
 refine pg rfl (rt (br (pr ?_)))
 cases p
 refine ⟨_,rfl,?_⟩
 rintro rfl
 have p:=a7
 cases p
 exact br (pr (pr (Rt.mk a2 ((b0.del 1).del 0) ri)))
 refine wpC_skip ?_
 cases p
 exact bn (nx (rg (o_p 3 rfl (o_nil (nx ⟨_,rfl,⟨b0,hx rfl⟩⟩)))))
 refine ex (px ?_)
 cases p
 refine ⟨_,rfl,?_⟩
 rintro rfl
 exact bh (nx (⟨_,rfl,a9,hx rfl⟩))
 rintro s _ ⟨a6,rfl,a7,_,rfl⟩
 refine nx (sq (sg (o_p 1 rfl (lt a7 0 rfl (obk p fun _ a8 p=>?_)))))
 refine ca okf134 rfl (rvb (c134 a7 (RepV.ofInt _ _) (RepV.ofInt _ _) (RepV.ofInt _ _) a8) fun _ a9 b0 b1=>?_)
 refine nf (o_p 2 rfl (obk p fun b2 b3 p=>?_))
 refine oq (fun s w=>∃ b4,Le a9 b4∧Inv w b4 ([(X,blk [.string u.name,it u.kind,it u.frm,it u.to,it u.partnerFrom,it u.partnerTo,A,B,C,D,it u.read,it u.write,F,it u.at_,H,J,K,it u.direction] 93)]::[(n,blk [.string d0.name,it d0.topology,(.slice V d0.states.length W),c,d,it d0.fault,f,g,h,i] 27)]::S)∧Hx s [(2,pt n),(5,pt X),(6,it (d0.states.length : Int)),(61,.bool b2)]) ?_ ?_
 replace p:=b3
 refine sp 48 p rfl (fun p=>?_) fun p=>?_
 refine o_p 11 rfl (o_no rfl rfl ?_)
 cases p
 exact o_p 1 rfl (o_nil (⟨a9,lr,b1,hx rfl⟩))
 refine o_p 1 rfl (lt b1 0 rfl (o_p 2 rfl (lt b1 1 rfl (o_p 4 rfl (sp 57 p rfl (fun p=>?_) fun p=>?_)))))
 refine o_p 2 rfl (o_no rfl rfl ?_)
 cases p
 exact o_p 1 rfl (o_nil (⟨a9,lr,b1,hx rfl⟩))
 refine lta b1 1 rfl (cs:=[.string d0.name,it d0.topology,(.slice V d0.states.length W),c,d,it d0.fault,f,g,h,i]) rfl (lta b1 0 rfl (cs:=[.string u.name,it u.kind,it u.frm,it u.to,it u.partnerFrom,it u.partnerTo,A,B,C,D,it u.read,it u.write,F,it u.at_,H,J,K,it u.direction]) rfl (obk p fun _ b5 p=>?_))
 refine ca okf206 rfl (rvb (c206 b1 (a.m (a2.t b0)) (z.m (a2.t b0)) b5) fun _ b6 b7 b8=>?_)
 refine nf ?_
 cases p
 exact o_p 1 rfl (o_nil (⟨b6,b7,b8,hx rfl⟩))
 rintro s _ ⟨b4,b5,b6,_,rfl⟩
 refine nx (cd p rfl (fun p=>?_) fun p=>?_)
 cases p
 exact pg rfl (rt (pr (Rt.mk ((a2.t b0).t b5) ((b6.del 1).del 0) ri)))
 refine sn (sg (o_p 1 rfl (lt b6 0 rfl (o_p 2 rfl (obk p fun b7 b8 p=>?_)))))
 refine oq (fun s w=>Inv w b4 ([(X,blk [.string u.name,it u.kind,it u.frm,it u.to,it u.partnerFrom,it u.partnerTo,A,B,C,D,it u.read,it u.write,F,it u.at_,H,J,K,it u.direction] 93)]::[(n,blk [.string d0.name,it d0.topology,(.slice V d0.states.length W),c,d,it d0.fault,f,g,h,i] 27)]::S)∧Hx s [(2,pt n),(5,pt X),(6,it (d0.states.length : Int)),(8,.bool b7)]) ?_ ?_
 replace p:=b8
 refine sp 65 p rfl (fun p=>?_) fun p=>?_
 cases p
 exact o_p 5 rfl (o_nil (⟨b6,hx rfl⟩))
 refine o_p 1 rfl (lt b6 0 rfl ?_)
 cases p
 exact o_p 3 rfl (o_nil (⟨b6,hx rfl⟩))
 rintro s _ ⟨b9,_,rfl⟩
 refine nx (sq (sg (o_p 1 rfl (lt b9 0 rfl (o_p 2 rfl (obk p fun _ e0 p=>?_))))))
 refine ca okf134 rfl (rvb (c134 b9 (RepV.ofInt _ _) (RepV.ofInt _ _) (RepV.ofInt _ _) e0) fun _ e1 e2 e3=>?_)
 refine nf (o_p 2 rfl (obk p fun e4 e5 p=>?_))
 refine oq (fun s w=>∃ e6,Le e1 e6∧Inv w e6 ([(X,blk [.string u.name,it u.kind,it u.frm,it u.to,it u.partnerFrom,it u.partnerTo,A,B,C,D,it u.read,it u.write,F,it u.at_,H,J,K,it u.direction] 93)]::[(n,blk [.string d0.name,it d0.topology,(.slice V d0.states.length W),c,d,it d0.fault,f,g,h,i] 27)]::S)∧Hx s [(2,pt n),(5,pt X),(6,it (d0.states.length : Int)),(102,.bool e4)]) ?_ ?_
 replace p:=e5
 refine sp 76 p rfl (fun p=>?_) fun p=>?_
 refine o_p 4 rfl (o_no rfl rfl (o_p 9 rfl (o_no rfl rfl (o_p 6 rfl (o_no rfl rfl ?_)))))
 cases p
 exact o_p 4 rfl (o_nil (⟨e1,lr,e3,hx rfl⟩))
 refine o_p 1 rfl (lt e3 0 rfl (o_p 2 rfl (obk p fun _ e7 p=>?_)))
 refine ca okf134 rfl (rvb (c134 e3 (RepV.ofInt _ _) (RepV.ofInt _ _) (RepV.ofInt _ _) e7) fun _ e8 e9 f0=>?_)
 refine nf (o_p 3 rfl (sp 84 p rfl (fun p=>?_) fun p=>?_))
 refine o_p 6 rfl (o_no rfl rfl (o_p 6 rfl (o_no rfl rfl ?_)))
 cases p
 exact o_p 4 rfl (o_nil (⟨e8,e9,f0,hx rfl⟩))
 refine o_p 2 rfl (sp 86 p rfl (fun p=>?_) fun p=>?_)
 refine o_p 1 rfl (lt f0 0 rfl (o_p 2 rfl (obk p fun _ f1 p=>?_)))
 refine ca okf134 rfl (rvb (c134 f0 (RepV.ofInt _ _) (RepV.ofInt _ _) (RepV.ofInt _ _) f1) fun _ f2 f3 f4=>?_)
 refine nf (o_p 2 rfl (sp 93 p rfl (fun p=>?_) fun p=>?_))
 refine o_p 4 rfl (o_no rfl rfl ?_)
 cases p
 exact o_p 4 rfl (o_nil (⟨f2,(e9.t f3),f4,hx rfl⟩))
 refine o_p 1 rfl (lt f4 0 rfl (o_p 2 rfl (obk p fun _ f5 p=>?_)))
 refine ca okf134 rfl (rvb (c134 f4 (RepV.ofInt _ _) (RepV.ofInt _ _) (RepV.ofInt _ _) f5) fun _ f6 f7 f8=>?_)
 refine nf ?_
 cases p
 exact o_p 4 rfl (o_nil (⟨f6,((e9.t f3).t f7),f8,hx rfl⟩))
 refine o_p 4 rfl (o_no rfl rfl (o_p 6 rfl (o_no rfl rfl ?_)))
 cases p
 exact o_p 4 rfl (o_nil (⟨e8,e9,f0,hx rfl⟩))
 rintro s _ ⟨e6,e7,e8,_,rfl⟩
 refine nx (cd p rfl (fun p=>?_) fun p=>?_)
 cases p
 exact pg rfl (rt (pr (Rt.mk ((((a2.t b0).t b5).t e2).t e7) ((e8.del 1).del 0) ri)))
 refine sn (sq (sg (o_p 1 rfl (lt e8 0 rfl (o_p 1 rfl (en (cd p rfl (fun p=>?_) fun p=>?_)))))))
 refine sq (sg (o_p 1 rfl (lt e8 0 rfl ?_)))
 obtain ⟨e9,f0,rfl,_⟩:=M.slice
 refine o_p 3 rfl (en (cd p rfl (fun p=>?_) fun p=>?_))
 cases p
 exact pg rfl (rt (pr (pr (Rt.mk ((((a2.t b0).t b5).t e2).t e7) ((e8.del 1).del 0) ri))))
 refine sn (pg rfl (obk p fun f1 f2 p=>?_))
 refine cq (fun s w=>∃ f3 : Unit,∃ f4,f1 = .inl f3∧Le e6 f4∧Inv w f4 ([(X,blk [.string u.name,it u.kind,it u.frm,it u.to,it u.partnerFrom,it u.partnerTo,(.slice e9 u.response.length f0),B,C,D,it u.read,it u.write,F,it u.at_,H,J,K,it u.direction] 93)]::[(n,blk [.string d0.name,it d0.topology,(.slice V d0.states.length W),c,d,it d0.fault,f,g,h,i] 27)]::S)∧Hx s [(2,pt n),(5,pt X),(6,it (d0.states.length : Int))]) ?_ ?_
 have f5:=p
 refine bk (fun (f6 : Int) s w=>∃ f7,Le e6 f7∧Inv w f7 ([(X,blk [.string u.name,it u.kind,it u.frm,it u.to,it u.partnerFrom,it u.partnerTo,(.slice e9 u.response.length f0),B,C,D,it u.read,it u.write,F,it u.at_,H,J,K,it u.direction] 93)]::[(n,blk [.string d0.name,it d0.topology,(.slice V d0.states.length W),c,d,it d0.fault,f,g,h,i] 27)]::S)∧Hx s [(2,pt n),(5,pt X),(6,it (d0.states.length : Int)),(9,it f6)]) f2 ⟨e6,lr,e8,hx rfl⟩ ?_
 clear f2
 rintro f6 _ s _ p ⟨f7,f8,f9,_,rfl⟩
 refine sq (pg rfl (cd p rfl (fun p=>?_) fun p=>?_))
 refine sn (sq ?_)
 refine wpC_block ?_
 refine sg (o_p 1 rfl (lt f9 0 rfl (o_p 1 rfl (obk p fun _ g0 p=>?_))))
 refine o_ix (M.m (((((a2.t b0).t b5).t e2).t e7).t f8)).slice g0 rfl rfl rfl rfl rfl rfl rfl rfl (fun _ g1=>?_) rfl
 refine ld f9 g1 rfl fun _ g2=>?_
 obtain rfl:=g2.int
 refine o_p 2 rfl (obk p fun _ g3 p=>?_)
 refine ca okf134 rfl (rvb (c134 f9 (RepV.ofInt _ _) (RepV.ofInt _ _) (RepV.ofInt _ _) g3) fun _ g4 g5 g6=>?_)
 refine nf (o_p 1 rfl (en (cd p rfl (fun p=>?_) fun p=>?_)))
 refine pg rfl (rt (br (pr ?_)))
 cases p
 refine ⟨_,rfl,?_⟩
 rintro rfl
 have p:=f5
 cases p
 exact br (pr (pr (Rt.mk ((((((a2.t b0).t b5).t e2).t e7).t f8).t g5) ((g6.del 1).del 0) ri)))
 refine wpC_skip ?_
 cases p
 exact bn (nx (rg (o_p 3 rfl (o_nil (nx ⟨_,rfl,⟨g4,(f8.t g5),g6,hx rfl⟩⟩)))))
 refine ex (px ?_)
 cases p
 refine ⟨_,rfl,?_⟩
 rintro rfl
 exact bh (nx (⟨_,f7,rfl,f8,f9,hx rfl⟩))
 rintro s _ ⟨f3,f4,rfl,f5,f6,_,rfl⟩
 refine nx (sq (pg rfl (obk p fun f7 f8 p=>?_)))
 refine cq (fun s w=>∃ f9 : Unit,∃ g0,f7 = .inl f9∧Le f4 g0∧Inv w g0 ([(X,blk [.string u.name,it u.kind,it u.frm,it u.to,it u.partnerFrom,it u.partnerTo,(.slice e9 u.response.length f0),B,C,D,it u.read,it u.write,F,it u.at_,H,J,K,it u.direction] 93)]::[(n,blk [.string d0.name,it d0.topology,(.slice V d0.states.length W),c,d,it d0.fault,f,g,h,i] 27)]::S)∧Hx s [(2,pt n),(5,pt X),(6,it (d0.states.length : Int))]) ?_ ?_
 have g1:=p
 refine bk (fun (g2 : Int) s w=>∃ g3,Le f4 g3∧Inv w g3 ([(X,blk [.string u.name,it u.kind,it u.frm,it u.to,it u.partnerFrom,it u.partnerTo,(.slice e9 u.response.length f0),B,C,D,it u.read,it u.write,F,it u.at_,H,J,K,it u.direction] 93)]::[(n,blk [.string d0.name,it d0.topology,(.slice V d0.states.length W),c,d,it d0.fault,f,g,h,i] 27)]::S)∧Hx s [(2,pt n),(5,pt X),(6,it (d0.states.length : Int)),(10,it g2)]) f8 ⟨f4,lr,f6,hx rfl⟩ ?_
 clear f8
 rintro g2 _ s _ p ⟨g3,g4,g5,_,rfl⟩
 refine sq (sg (o_p 2 rfl (lt g5 0 rfl ?_)))
 obtain ⟨_,_,rfl,_⟩:=N.slice
 refine o_p 2 rfl (en (cd p rfl (fun p=>?_) fun p=>?_))
 refine sn (sq ?_)
 refine wpC_block ?_
 refine sg (o_p 1 rfl (lt g5 0 rfl (o_p 1 rfl (obk p fun g6 g7 p=>?_))))
 refine o_ix (N.m ((((((a2.t b0).t b5).t e2).t e7).t f5).t g4)).slice g7 rfl rfl rfl rfl rfl rfl rfl rfl (fun _ g8=>?_) rfl
 refine ld g5 g8 rfl fun _ g9=>?_
 have _:=g9
 obtain rfl:=Threshold.unp g9
 refine o_alloc g5 rfl rfl rfl zero293 fun _ _ i0=>nf ?_
 refine st i0 0 rfl rfl (cs:=[it g6.message,it g6.coef,it g6.bound.c,it g6.bound.n,it g6.bound.t,it g6.bound.f]) rfl rfl rfl fun _ i1=>nf ?_
 refine en (sq (sg (o_p 1 rfl (lt i1 0 rfl (o_p 1 rfl (lt i1 2 rfl ?_))))))
 obtain ⟨_,_,rfl,_⟩:=k.slice
 refine o_p 2 rfl (obk p fun _ i2 p=>?_)
 refine ca okf134 rfl (rvb (c134 i1 (RepV.ofInt _ _) (RepV.ofInt _ _) (RepV.ofInt _ _) i2) fun _ _ i3 i4=>?_)
 refine nf (o_p 1 rfl (en (cd p rfl (fun p=>?_) fun p=>?_)))
 refine pg rfl (rt (pr (br (pr ?_))))
 cases p
 refine ⟨_,rfl,?_⟩
 rintro rfl
 have p:=g1
 cases p
 exact br (pr (pr (Rt.mk (((((((a2.t b0).t b5).t e2).t e7).t f5).t g4).t i3) (((i4.del 2).del 1).del 0) ri)))
 refine sn (sq (sg (o_p 1 rfl (lt i4 0 rfl (obk p fun _ i5 p=>?_)))))
 refine ca okf134 rfl (rvb (c134 i4 (RepV.ofInt _ _) (RepV.ofInt _ _) (RepV.ofInt _ _) i5) fun _ _ i6 i7=>?_)
 refine nf (o_p 1 rfl (en (cd p rfl (fun p=>?_) fun p=>?_)))
 refine pg rfl (rt (pr (br (pr ?_))))
 cases p
 refine ⟨_,rfl,?_⟩
 rintro rfl
 have p:=g1
 cases p
 exact br (pr (pr (Rt.mk ((((((((a2.t b0).t b5).t e2).t e7).t f5).t g4).t i3).t i6) (((i7.del 2).del 1).del 0) ri)))
 refine sn (sg (o_p 1 rfl (lta i7 0 rfl (cs:=[it g6.bound.c,it g6.bound.n,it g6.bound.t,it g6.bound.f]) rfl (obk p fun _ i8 p=>?_))))
 refine ca okf182 rfl (rvb (c182 i7 (Linear.pk (⟨g6.bound.c,g6.bound.n,g6.bound.t,g6.bound.f⟩ : Linear)) i8) fun _ i9 j0 j1=>?_)
 refine nf (o_p 1 rfl (en (cd p rfl (fun p=>?_) fun p=>?_)))
 refine pg rfl (rt (br (pr ?_)))
 cases p
 refine ⟨_,rfl,?_⟩
 rintro rfl
 have p:=g1
 cases p
 exact br (pr (pr (Rt.mk (((((((((a2.t b0).t b5).t e2).t e7).t f5).t g4).t i3).t i6).t j0) (((j1.del 2).del 1).del 0) ri)))
 refine wpC_skip ?_
 cases p
 exact bn (nx (rg (o_p 3 rfl (o_nil (nx ⟨_,rfl,⟨i9,(((g4.t i3).t i6).t j0),(j1.del 0),hx rfl⟩⟩)))))
 refine ex (px ?_)
 cases p
 refine ⟨_,rfl,?_⟩
 rintro rfl
 exact bh (nx (⟨_,g3,rfl,g4,g5,hx rfl⟩))
 rintro s _ ⟨f9,g0,rfl,g1,g2,_,rfl⟩
 refine nx (sq (sg (o_p 1 rfl (lt g2 0 rfl ?_))))
 obtain ⟨g3,g4,rfl,_⟩:=N.slice
 refine o_p 2 rfl (en (cd p rfl (fun p=>?_) fun p=>?_))
 cases p
 exact pg rfl (rt (pr (Rt.mk ((((((a2.t b0).t b5).t e2).t e7).t f5).t g1) ((g2.del 1).del 0) ri)))
 refine sn (sq (sg (o_p 1 rfl (lt g2 0 rfl (o_p 1 rfl (obk p fun _ g5 p=>?_))))))
 refine ca okf133 rfl (rvi (c133 g2 (O.m ((((((a2.t b0).t b5).t e2).t e7).t f5).t g1)) (RepV.ofInt _ _) g5) fun _ _ g6 g7=>?_)
 refine nf (o_p 1 rfl (en (pg rfl (cd p rfl (fun p=>?_) fun p=>?_))))
 cases p
 exact pg rfl (rt (pr (Rt.mk (((((((a2.t b0).t b5).t e2).t e7).t f5).t g1).t g6) ((g7.del 1).del 0) ri)))
 refine sn (sq (sg (o_p 1 rfl (lt g7 0 rfl (o_p 1 rfl (obk p fun _ g8 p=>?_))))))
 refine ca okf133 rfl (rvi (c133 g7 (P.m (((((((a2.t b0).t b5).t e2).t e7).t f5).t g1).t g6)) (RepV.ofInt _ _) g8) fun _ g9 i0 i1=>?_)
 refine nf (o_p 1 rfl (en (pg rfl (cd p rfl (fun p=>?_) fun p=>?_))))
 cases p
 exact pg rfl (rt (pr (Rt.mk ((((((((a2.t b0).t b5).t e2).t e7).t f5).t g1).t g6).t i0) ((i1.del 1).del 0) ri)))
 refine sn (sq (sg (o_p 1 rfl (lt i1 0 rfl (o_p 2 rfl (obk p fun i2 i3 p=>?_))))))
 refine oq (fun s w=>∃ i4,Le g9 i4∧Inv w i4 ([(X,blk [.string u.name,it u.kind,it u.frm,it u.to,it u.partnerFrom,it u.partnerTo,(.slice e9 u.response.length f0),(.slice g3 u.guards.length g4),C,D,it u.read,it u.write,F,it u.at_,H,J,K,it u.direction] 93)]::[(n,blk [.string d0.name,it d0.topology,(.slice V d0.states.length W),c,d,it d0.fault,f,g,h,i] 27)]::S)∧Hx s [(2,pt n),(5,pt X),(6,it (d0.states.length : Int)),(198,.bool i2)]) ?_ ?_
 replace p:=i3
 refine sp 174 p rfl (fun p=>?_) fun p=>?_
 refine o_p 1 rfl (lt i1 0 rfl (o_p 1 rfl (lt i1 1 rfl ?_)))
 obtain ⟨_,_,rfl,_⟩:=l.slice
 refine o_p 2 rfl (obk p fun _ i5 p=>?_)
 refine ca okf134 rfl (rvb (c134 i1 (RepV.ofInt _ _) (RepV.ofInt _ _) (RepV.ofInt _ _) i5) fun _ i6 i7 i8=>?_)
 refine nf (o_p 3 rfl (sp 184 p rfl (fun p=>?_) fun p=>?_))
 refine o_p 10 rfl (o_no rfl rfl ?_)
 cases p
 exact o_p 3 rfl (o_nil (⟨i6,i7,i8,hx rfl⟩))
 refine o_p 1 rfl (lt i8 0 rfl (o_p 2 rfl (sp 188 p rfl (fun p=>?_) fun p=>?_)))
 refine o_p 1 rfl (lt i8 0 rfl (o_p 1 rfl (lt i8 1 rfl (o_p 2 rfl (obk p fun _ i9 p=>?_)))))
 refine ca okf134 rfl (rvb (c134 i8 (RepV.ofInt _ _) (RepV.ofInt _ _) (RepV.ofInt _ _) i9) fun _ j0 j1 j2=>?_)
 refine nf ?_
 cases p
 exact o_p 3 rfl (o_nil (⟨j0,(i7.t j1),j2,hx rfl⟩))
 refine o_p 6 rfl (o_no rfl rfl ?_)
 cases p
 exact o_p 3 rfl (o_nil (⟨i6,i7,i8,hx rfl⟩))
 refine o_p 6 rfl (o_no rfl rfl (o_p 4 rfl (lt i1 0 rfl (o_p 2 rfl (sp 188 p rfl (fun p=>?_) fun p=>?_)))))
 refine o_p 1 rfl (lt i1 0 rfl (o_p 1 rfl (lt i1 1 rfl ?_)))
 obtain ⟨_,_,rfl,_⟩:=l.slice
 refine o_p 2 rfl (obk p fun _ i5 p=>?_)
 refine ca okf134 rfl (rvb (c134 i1 (RepV.ofInt _ _) (RepV.ofInt _ _) (RepV.ofInt _ _) i5) fun _ i6 i7 i8=>?_)
 refine nf ?_
 cases p
 exact o_p 3 rfl (o_nil (⟨i6,i7,i8,hx rfl⟩))
 refine o_p 6 rfl (o_no rfl rfl ?_)
 cases p
 exact o_p 3 rfl (o_nil (⟨g9,lr,i1,hx rfl⟩))
 rintro s _ ⟨i4,i5,i6,_,rfl⟩
 refine nx (cd p rfl (fun p=>?_) fun p=>?_)
 cases p
 exact pg rfl (rt (pr (Rt.mk (((((((((a2.t b0).t b5).t e2).t e7).t f5).t g1).t g6).t i0).t i5) ((i6.del 1).del 0) ri)))
 refine sn (sq (sg (o_p 1 rfl (lt i6 0 rfl (o_p 1 rfl (lt i6 1 rfl ?_))))))
 obtain ⟨i7,i8,rfl,_⟩:=k.slice
 refine o_p 1 rfl (obk p fun _ i9 p=>?_)
 refine ca okf133 rfl (rvi (c133 i6 (Q.m (((((((((a2.t b0).t b5).t e2).t e7).t f5).t g1).t g6).t i0).t i5)) (RepV.ofInt _ _) i9) fun _ _ j0 j1=>?_)
 refine nf (o_p 1 rfl (en (pg rfl (cd p rfl (fun p=>?_) fun p=>?_))))
 cases p
 exact pg rfl (rt (pr (Rt.mk ((((((((((a2.t b0).t b5).t e2).t e7).t f5).t g1).t g6).t i0).t i5).t j0) ((j1.del 1).del 0) ri)))
 refine sn (sq (sg (o_p 1 rfl (lt j1 0 rfl (o_p 1 rfl (obk p fun _ j2 p=>?_))))))
 refine ca okf133 rfl (rvi (c133 j1 (R.m ((((((((((a2.t b0).t b5).t e2).t e7).t f5).t g1).t g6).t i0).t i5).t j0)) (RepV.ofInt _ _) j2) fun _ _ j3 j4=>?_)
 refine nf (o_p 1 rfl (en (pg rfl (cd p rfl (fun p=>?_) fun p=>?_))))
 cases p
 exact pg rfl (rt (pr (Rt.mk (((((((((((a2.t b0).t b5).t e2).t e7).t f5).t g1).t g6).t i0).t i5).t j0).t j3) ((j4.del 1).del 0) ri)))
 refine sn (sq (sg (o_p 1 rfl (lt j4 0 rfl (o_p 1 rfl (obk p fun _ j5 p=>?_))))))
 refine ca okf133 rfl (rvi (c133 j4 (T.m (((((((((((a2.t b0).t b5).t e2).t e7).t f5).t g1).t g6).t i0).t i5).t j0).t j3)) (RepV.ofInt _ _) j5) fun _ _ j6 j7=>?_)
 refine nf (o_p 1 rfl (en (pg rfl (cd p rfl (fun p=>?_) fun p=>?_))))
 cases p
 exact pg rfl (rt (pr (Rt.mk ((((((((((((a2.t b0).t b5).t e2).t e7).t f5).t g1).t g6).t i0).t i5).t j0).t j3).t j6) ((j7.del 1).del 0) ri)))
 refine sn (sq (sg (o_p 1 rfl (lt j7 0 rfl (o_p 1 rfl (obk p fun _ j8 p=>?_))))))
 refine ca okf133 rfl (rvi (c133 j7 (U.m ((((((((((((a2.t b0).t b5).t e2).t e7).t f5).t g1).t g6).t i0).t i5).t j0).t j3).t j6)) (RepV.ofInt _ _) j8) fun _ j9 k0 k1=>?_)
 refine nf (o_p 1 rfl (en (pg rfl (cd p rfl (fun p=>?_) fun p=>?_))))
 cases p
 exact pg rfl (rt (pr (Rt.mk (((((((((((((a2.t b0).t b5).t e2).t e7).t f5).t g1).t g6).t i0).t i5).t j0).t j3).t j6).t k0) ((k1.del 1).del 0) ri)))
 refine sn (sq (sg (o_p 1 rfl (lt k1 0 rfl (o_p 2 rfl (obk p fun k2 k3 p=>?_))))))
 refine oq (fun s w=>∃ k4,Le j9 k4∧Inv w k4 ([(X,blk [.string u.name,it u.kind,it u.frm,it u.to,it u.partnerFrom,it u.partnerTo,(.slice e9 u.response.length f0),(.slice g3 u.guards.length g4),C,D,it u.read,it u.write,F,it u.at_,H,J,K,it u.direction] 93)]::[(n,blk [.string d0.name,it d0.topology,(.slice V d0.states.length W),(.slice i7 d0.messages.length i8),d,it d0.fault,f,g,h,i] 27)]::S)∧Hx s [(2,pt n),(5,pt X),(247,.bool k2)]) ?_ ?_
 replace p:=k3
 refine sp 232 p rfl (fun p=>?_) fun p=>?_
 refine o_p 1 rfl (lt k1 0 rfl (obk p fun _ k5 p=>?_))
 refine ca okf134 rfl (rvb (c134 k1 (RepV.ofInt _ _) (RepV.ofInt _ _) (RepV.ofInt _ _) k5) fun _ k6 k7 k8=>?_)
 refine nf (o_p 2 rfl (sp 237 p rfl (fun p=>?_) fun p=>?_))
 cases p
 exact o_p 10 rfl (o_nil (⟨k6,k7,k8,hx rfl⟩))
 refine o_p 1 rfl (lt k8 0 rfl (o_p 2 rfl (sp 241 p rfl (fun p=>?_) fun p=>?_)))
 refine o_p 1 rfl (lt k8 1 rfl ?_)
 cases p
 exact o_p 4 rfl (o_nil (⟨k6,k7,k8,hx rfl⟩))
 cases p
 exact o_p 6 rfl (o_nil (⟨k6,k7,k8,hx rfl⟩))
 refine o_p 2 rfl (o_no rfl rfl ?_)
 cases p
 exact o_p 12 rfl (o_nil (⟨j9,lr,k1,hx rfl⟩))
 rintro s _ ⟨k4,k5,k6,_,rfl⟩
 refine nx (cd p rfl (fun p=>?_) fun p=>?_)
 cases p
 exact pg rfl (rt (pr (Rt.mk ((((((((((((((a2.t b0).t b5).t e2).t e7).t f5).t g1).t g6).t i0).t i5).t j0).t j3).t j6).t k0).t k5) ((k6.del 1).del 0) ri)))
 refine sn (sq (sg (o_p 1 rfl (lt k6 0 rfl (o_p 2 rfl (obk p fun k7 k8 p=>?_))))))
 refine oq (fun s w=>∃ k9,Le k4 k9∧Inv w k9 ([(X,blk [.string u.name,it u.kind,it u.frm,it u.to,it u.partnerFrom,it u.partnerTo,(.slice e9 u.response.length f0),(.slice g3 u.guards.length g4),C,D,it u.read,it u.write,F,it u.at_,H,J,K,it u.direction] 93)]::[(n,blk [.string d0.name,it d0.topology,(.slice V d0.states.length W),(.slice i7 d0.messages.length i8),d,it d0.fault,f,g,h,i] 27)]::S)∧Hx s [(2,pt n),(5,pt X),(261,.bool k7)]) ?_ ?_
 replace p:=k8
 refine sp 251 p rfl (fun p=>?_) fun p=>?_
 refine o_p 1 rfl (lt k6 1 rfl (o_p 3 rfl (sp 256 p rfl (fun p=>?_) fun p=>?_)))
 refine o_p 1 rfl (lt k6 0 rfl (obk p fun _ m0 p=>?_))
 refine ca okf134 rfl (rvb (c134 k6 (RepV.ofInt _ _) (RepV.ofInt _ _) (RepV.ofInt _ _) m0) fun _ m1 m2 m3=>?_)
 refine nf ?_
 cases p
 exact o_p 2 rfl (o_nil (⟨m1,m2,m3,hx rfl⟩))
 refine o_p 2 rfl (o_no rfl rfl ?_)
 cases p
 exact o_p 2 rfl (o_nil (⟨k4,lr,k6,hx rfl⟩))
 refine o_p 7 rfl (o_no rfl rfl ?_)
 cases p
 exact o_p 2 rfl (o_nil (⟨k4,lr,k6,hx rfl⟩))
 rintro s _ ⟨k9,m0,m1,_,rfl⟩
 refine nx (cd p rfl (fun p=>?_) fun p=>?_)
 cases p
 exact pg rfl (rt (pr (Rt.mk (((((((((((((((a2.t b0).t b5).t e2).t e7).t f5).t g1).t g6).t i0).t i5).t j0).t j3).t j6).t k0).t k5).t m0) ((m1.del 1).del 0) ri)))
 refine sn (sq (sg (o_p 1 rfl (lt m1 0 rfl (o_p 2 rfl (obk p fun m2 m3 p=>?_))))))
 refine oq (fun s w=>∃ m4,Le k9 m4∧Inv w m4 ([(X,blk [.string u.name,it u.kind,it u.frm,it u.to,it u.partnerFrom,it u.partnerTo,(.slice e9 u.response.length f0),(.slice g3 u.guards.length g4),C,D,it u.read,it u.write,F,it u.at_,H,J,K,it u.direction] 93)]::[(n,blk [.string d0.name,it d0.topology,(.slice V d0.states.length W),(.slice i7 d0.messages.length i8),d,it d0.fault,f,g,h,i] 27)]::S)∧Hx s [(275,.bool m2)]) ?_ ?_
 replace p:=m3
 refine sp 265 p rfl (fun p=>?_) fun p=>?_
 refine o_p 1 rfl (lt m1 1 rfl (o_p 3 rfl (sp 270 p rfl (fun p=>?_) fun p=>?_)))
 refine o_p 1 rfl (lt m1 0 rfl (obk p fun _ m5 p=>?_))
 refine ca okf134 rfl (rvb (c134 m1 (RepV.ofInt _ _) (RepV.ofInt _ _) (RepV.ofInt _ _) m5) fun _ m6 m7 m8=>?_)
 refine nf ?_
 cases p
 exact o_p 2 rfl (o_nil (⟨m6,m7,m8,hx rfl⟩))
 refine o_p 2 rfl (o_no rfl rfl ?_)
 cases p
 exact o_p 2 rfl (o_nil (⟨k9,lr,m1,hx rfl⟩))
 refine o_p 7 rfl (o_no rfl rfl ?_)
 cases p
 exact o_p 2 rfl (o_nil (⟨k9,lr,m1,hx rfl⟩))
 rintro s _ ⟨m4,m5,m6,_,rfl⟩
 refine nx (cd p rfl (fun p=>?_) fun p=>?_)
 cases p
 exact pg rfl (rt (pr (Rt.mk ((((((((((((((((a2.t b0).t b5).t e2).t e7).t f5).t g1).t g6).t i0).t i5).t j0).t j3).t j6).t k0).t k5).t m0).t m5) ((m6.del 1).del 0) ri)))
 cases p
 exact sn (pg rfl (rt (Rt.mk ((((((((((((((((a2.t b0).t b5).t e2).t e7).t f5).t g1).t g6).t i0).t i5).t j0).t j3).t j6).t k0).t k5).t m0).t m5) ((m6.del 1).del 0) ri)))
 refine sn (sq (pg rfl (obk p fun e9 f0 p=>?_)))
 refine cq (fun s w=>∃ f1 : Unit,∃ f2,e9 = .inl f1∧Le e6 f2∧Inv w f2 ([(X,blk [.string u.name,it u.kind,it u.frm,it u.to,it u.partnerFrom,it u.partnerTo,A,B,C,D,it u.read,it u.write,F,it u.at_,H,J,K,it u.direction] 93)]::[(n,blk [.string d0.name,it d0.topology,(.slice V d0.states.length W),c,d,it d0.fault,f,g,h,i] 27)]::S)∧Hx s [(2,pt n),(5,pt X),(6,it (d0.states.length : Int))]) ?_ ?_
 have f3:=p
 refine bk (fun (f4 : Int) s w=>∃ f5,Le e6 f5∧Inv w f5 ([(X,blk [.string u.name,it u.kind,it u.frm,it u.to,it u.partnerFrom,it u.partnerTo,A,B,C,D,it u.read,it u.write,F,it u.at_,H,J,K,it u.direction] 93)]::[(n,blk [.string d0.name,it d0.topology,(.slice V d0.states.length W),c,d,it d0.fault,f,g,h,i] 27)]::S)∧Hx s [(2,pt n),(5,pt X),(6,it (d0.states.length : Int)),(10,it f4)]) f0 ⟨e6,lr,e8,hx rfl⟩ ?_
 clear f0
 rintro f4 _ s _ p ⟨f5,f6,f7,_,rfl⟩
 refine sq (sg (o_p 2 rfl (lt f7 0 rfl ?_)))
 obtain ⟨_,_,rfl,_⟩:=N.slice
 refine o_p 2 rfl (en (cd p rfl (fun p=>?_) fun p=>?_))
 refine sn (sq ?_)
 refine wpC_block ?_
 refine sg (o_p 1 rfl (lt f7 0 rfl (o_p 1 rfl (obk p fun f8 f9 p=>?_))))
 refine o_ix (N.m (((((a2.t b0).t b5).t e2).t e7).t f6)).slice f9 rfl rfl rfl rfl rfl rfl rfl rfl (fun _ g0=>?_) rfl
 refine ld f7 g0 rfl fun _ g1=>?_
 have _:=g1
 obtain rfl:=Threshold.unp g1
 refine o_alloc f7 rfl rfl rfl zero293 fun _ _ g2=>nf ?_
 refine st g2 0 rfl rfl (cs:=[it f8.message,it f8.coef,it f8.bound.c,it f8.bound.n,it f8.bound.t,it f8.bound.f]) rfl rfl rfl fun _ g3=>nf ?_
 refine en (sq (sg (o_p 1 rfl (lt g3 0 rfl (o_p 1 rfl (lt g3 2 rfl ?_))))))
 obtain ⟨_,_,rfl,_⟩:=k.slice
 refine o_p 2 rfl (obk p fun _ g4 p=>?_)
 refine ca okf134 rfl (rvb (c134 g3 (RepV.ofInt _ _) (RepV.ofInt _ _) (RepV.ofInt _ _) g4) fun _ _ g5 g6=>?_)
 refine nf (o_p 1 rfl (en (cd p rfl (fun p=>?_) fun p=>?_)))
 refine pg rfl (rt (pr (br (pr ?_))))
 cases p
 refine ⟨_,rfl,?_⟩
 rintro rfl
 have p:=f3
 cases p
 exact br (pr (pr (Rt.mk ((((((a2.t b0).t b5).t e2).t e7).t f6).t g5) (((g6.del 2).del 1).del 0) ri)))
 refine sn (sq (sg (o_p 1 rfl (lt g6 0 rfl (obk p fun _ g7 p=>?_)))))
 refine ca okf134 rfl (rvb (c134 g6 (RepV.ofInt _ _) (RepV.ofInt _ _) (RepV.ofInt _ _) g7) fun _ _ g8 g9=>?_)
 refine nf (o_p 1 rfl (en (cd p rfl (fun p=>?_) fun p=>?_)))
 refine pg rfl (rt (pr (br (pr ?_))))
 cases p
 refine ⟨_,rfl,?_⟩
 rintro rfl
 have p:=f3
 cases p
 exact br (pr (pr (Rt.mk (((((((a2.t b0).t b5).t e2).t e7).t f6).t g5).t g8) (((g9.del 2).del 1).del 0) ri)))
 refine sn (sg (o_p 1 rfl (lta g9 0 rfl (cs:=[it f8.bound.c,it f8.bound.n,it f8.bound.t,it f8.bound.f]) rfl (obk p fun _ i0 p=>?_))))
 refine ca okf182 rfl (rvb (c182 g9 (Linear.pk (⟨f8.bound.c,f8.bound.n,f8.bound.t,f8.bound.f⟩ : Linear)) i0) fun _ i1 i2 i3=>?_)
 refine nf (o_p 1 rfl (en (cd p rfl (fun p=>?_) fun p=>?_)))
 refine pg rfl (rt (br (pr ?_)))
 cases p
 refine ⟨_,rfl,?_⟩
 rintro rfl
 have p:=f3
 cases p
 exact br (pr (pr (Rt.mk ((((((((a2.t b0).t b5).t e2).t e7).t f6).t g5).t g8).t i2) (((i3.del 2).del 1).del 0) ri)))
 refine wpC_skip ?_
 cases p
 exact bn (nx (rg (o_p 3 rfl (o_nil (nx ⟨_,rfl,⟨i1,(((f6.t g5).t g8).t i2),(i3.del 0),hx rfl⟩⟩)))))
 refine ex (px ?_)
 cases p
 refine ⟨_,rfl,?_⟩
 rintro rfl
 exact bh (nx (⟨_,f5,rfl,f6,f7,hx rfl⟩))
 rintro s _ ⟨f1,f2,rfl,f3,f4,_,rfl⟩
 refine nx (sq (sg (o_p 1 rfl (lt f4 0 rfl ?_))))
 obtain ⟨f5,f6,rfl,_⟩:=N.slice
 refine o_p 2 rfl (en (cd p rfl (fun p=>?_) fun p=>?_))
 cases p
 exact pg rfl (rt (pr (Rt.mk (((((a2.t b0).t b5).t e2).t e7).t f3) ((f4.del 1).del 0) ri)))
 refine sn (sq (sg (o_p 1 rfl (lt f4 0 rfl (o_p 1 rfl (obk p fun _ f7 p=>?_))))))
 refine ca okf133 rfl (rvi (c133 f4 (O.m (((((a2.t b0).t b5).t e2).t e7).t f3)) (RepV.ofInt _ _) f7) fun _ _ f8 f9=>?_)
 refine nf (o_p 1 rfl (en (pg rfl (cd p rfl (fun p=>?_) fun p=>?_))))
 cases p
 exact pg rfl (rt (pr (Rt.mk ((((((a2.t b0).t b5).t e2).t e7).t f3).t f8) ((f9.del 1).del 0) ri)))
 refine sn (sq (sg (o_p 1 rfl (lt f9 0 rfl (o_p 1 rfl (obk p fun _ g0 p=>?_))))))
 refine ca okf133 rfl (rvi (c133 f9 (P.m ((((((a2.t b0).t b5).t e2).t e7).t f3).t f8)) (RepV.ofInt _ _) g0) fun _ g1 g2 g3=>?_)
 refine nf (o_p 1 rfl (en (pg rfl (cd p rfl (fun p=>?_) fun p=>?_))))
 cases p
 exact pg rfl (rt (pr (Rt.mk (((((((a2.t b0).t b5).t e2).t e7).t f3).t f8).t g2) ((g3.del 1).del 0) ri)))
 refine sn (sq (sg (o_p 1 rfl (lt g3 0 rfl (o_p 2 rfl (obk p fun g4 g5 p=>?_))))))
 refine oq (fun s w=>∃ g6,Le g1 g6∧Inv w g6 ([(X,blk [.string u.name,it u.kind,it u.frm,it u.to,it u.partnerFrom,it u.partnerTo,A,(.slice f5 u.guards.length f6),C,D,it u.read,it u.write,F,it u.at_,H,J,K,it u.direction] 93)]::[(n,blk [.string d0.name,it d0.topology,(.slice V d0.states.length W),c,d,it d0.fault,f,g,h,i] 27)]::S)∧Hx s [(2,pt n),(5,pt X),(6,it (d0.states.length : Int)),(198,.bool g4)]) ?_ ?_
 replace p:=g5
 refine sp 174 p rfl (fun p=>?_) fun p=>?_
 refine o_p 1 rfl (lt g3 0 rfl (o_p 1 rfl (lt g3 1 rfl ?_)))
 obtain ⟨_,_,rfl,_⟩:=l.slice
 refine o_p 2 rfl (obk p fun _ g7 p=>?_)
 refine ca okf134 rfl (rvb (c134 g3 (RepV.ofInt _ _) (RepV.ofInt _ _) (RepV.ofInt _ _) g7) fun _ g8 g9 i0=>?_)
 refine nf (o_p 3 rfl (sp 184 p rfl (fun p=>?_) fun p=>?_))
 refine o_p 10 rfl (o_no rfl rfl ?_)
 cases p
 exact o_p 3 rfl (o_nil (⟨g8,g9,i0,hx rfl⟩))
 refine o_p 1 rfl (lt i0 0 rfl (o_p 2 rfl (sp 188 p rfl (fun p=>?_) fun p=>?_)))
 refine o_p 1 rfl (lt i0 0 rfl (o_p 1 rfl (lt i0 1 rfl (o_p 2 rfl (obk p fun _ i1 p=>?_)))))
 refine ca okf134 rfl (rvb (c134 i0 (RepV.ofInt _ _) (RepV.ofInt _ _) (RepV.ofInt _ _) i1) fun _ i2 i3 i4=>?_)
 refine nf ?_
 cases p
 exact o_p 3 rfl (o_nil (⟨i2,(g9.t i3),i4,hx rfl⟩))
 refine o_p 6 rfl (o_no rfl rfl ?_)
 cases p
 exact o_p 3 rfl (o_nil (⟨g8,g9,i0,hx rfl⟩))
 refine o_p 6 rfl (o_no rfl rfl (o_p 4 rfl (lt g3 0 rfl (o_p 2 rfl (sp 188 p rfl (fun p=>?_) fun p=>?_)))))
 refine o_p 1 rfl (lt g3 0 rfl (o_p 1 rfl (lt g3 1 rfl ?_)))
 obtain ⟨_,_,rfl,_⟩:=l.slice
 refine o_p 2 rfl (obk p fun _ g7 p=>?_)
 refine ca okf134 rfl (rvb (c134 g3 (RepV.ofInt _ _) (RepV.ofInt _ _) (RepV.ofInt _ _) g7) fun _ g8 g9 i0=>?_)
 refine nf ?_
 cases p
 exact o_p 3 rfl (o_nil (⟨g8,g9,i0,hx rfl⟩))
 refine o_p 6 rfl (o_no rfl rfl ?_)
 cases p
 exact o_p 3 rfl (o_nil (⟨g1,lr,g3,hx rfl⟩))
 rintro s _ ⟨g6,g7,g8,_,rfl⟩
 refine nx (cd p rfl (fun p=>?_) fun p=>?_)
 cases p
 exact pg rfl (rt (pr (Rt.mk ((((((((a2.t b0).t b5).t e2).t e7).t f3).t f8).t g2).t g7) ((g8.del 1).del 0) ri)))
 refine sn (sq (sg (o_p 1 rfl (lt g8 0 rfl (o_p 1 rfl (lt g8 1 rfl ?_))))))
 obtain ⟨g9,i0,rfl,_⟩:=k.slice
 refine o_p 1 rfl (obk p fun _ i1 p=>?_)
 refine ca okf133 rfl (rvi (c133 g8 (Q.m ((((((((a2.t b0).t b5).t e2).t e7).t f3).t f8).t g2).t g7)) (RepV.ofInt _ _) i1) fun _ _ i2 i3=>?_)
 refine nf (o_p 1 rfl (en (pg rfl (cd p rfl (fun p=>?_) fun p=>?_))))
 cases p
 exact pg rfl (rt (pr (Rt.mk (((((((((a2.t b0).t b5).t e2).t e7).t f3).t f8).t g2).t g7).t i2) ((i3.del 1).del 0) ri)))
 refine sn (sq (sg (o_p 1 rfl (lt i3 0 rfl (o_p 1 rfl (obk p fun _ i4 p=>?_))))))
 refine ca okf133 rfl (rvi (c133 i3 (R.m (((((((((a2.t b0).t b5).t e2).t e7).t f3).t f8).t g2).t g7).t i2)) (RepV.ofInt _ _) i4) fun _ _ i5 i6=>?_)
 refine nf (o_p 1 rfl (en (pg rfl (cd p rfl (fun p=>?_) fun p=>?_))))
 cases p
 exact pg rfl (rt (pr (Rt.mk ((((((((((a2.t b0).t b5).t e2).t e7).t f3).t f8).t g2).t g7).t i2).t i5) ((i6.del 1).del 0) ri)))
 refine sn (sq (sg (o_p 1 rfl (lt i6 0 rfl (o_p 1 rfl (obk p fun _ i7 p=>?_))))))
 refine ca okf133 rfl (rvi (c133 i6 (T.m ((((((((((a2.t b0).t b5).t e2).t e7).t f3).t f8).t g2).t g7).t i2).t i5)) (RepV.ofInt _ _) i7) fun _ _ i8 i9=>?_)
 refine nf (o_p 1 rfl (en (pg rfl (cd p rfl (fun p=>?_) fun p=>?_))))
 cases p
 exact pg rfl (rt (pr (Rt.mk (((((((((((a2.t b0).t b5).t e2).t e7).t f3).t f8).t g2).t g7).t i2).t i5).t i8) ((i9.del 1).del 0) ri)))
 refine sn (sq (sg (o_p 1 rfl (lt i9 0 rfl (o_p 1 rfl (obk p fun _ j0 p=>?_))))))
 refine ca okf133 rfl (rvi (c133 i9 (U.m (((((((((((a2.t b0).t b5).t e2).t e7).t f3).t f8).t g2).t g7).t i2).t i5).t i8)) (RepV.ofInt _ _) j0) fun _ j1 j2 j3=>?_)
 refine nf (o_p 1 rfl (en (pg rfl (cd p rfl (fun p=>?_) fun p=>?_))))
 cases p
 exact pg rfl (rt (pr (Rt.mk ((((((((((((a2.t b0).t b5).t e2).t e7).t f3).t f8).t g2).t g7).t i2).t i5).t i8).t j2) ((j3.del 1).del 0) ri)))
 refine sn (sq (sg (o_p 1 rfl (lt j3 0 rfl (o_p 2 rfl (obk p fun j4 j5 p=>?_))))))
 refine oq (fun s w=>∃ j6,Le j1 j6∧Inv w j6 ([(X,blk [.string u.name,it u.kind,it u.frm,it u.to,it u.partnerFrom,it u.partnerTo,A,(.slice f5 u.guards.length f6),C,D,it u.read,it u.write,F,it u.at_,H,J,K,it u.direction] 93)]::[(n,blk [.string d0.name,it d0.topology,(.slice V d0.states.length W),(.slice g9 d0.messages.length i0),d,it d0.fault,f,g,h,i] 27)]::S)∧Hx s [(2,pt n),(5,pt X),(247,.bool j4)]) ?_ ?_
 replace p:=j5
 refine sp 232 p rfl (fun p=>?_) fun p=>?_
 refine o_p 1 rfl (lt j3 0 rfl (obk p fun _ j7 p=>?_))
 refine ca okf134 rfl (rvb (c134 j3 (RepV.ofInt _ _) (RepV.ofInt _ _) (RepV.ofInt _ _) j7) fun _ j8 j9 k0=>?_)
 refine nf (o_p 2 rfl (sp 237 p rfl (fun p=>?_) fun p=>?_))
 cases p
 exact o_p 10 rfl (o_nil (⟨j8,j9,k0,hx rfl⟩))
 refine o_p 1 rfl (lt k0 0 rfl (o_p 2 rfl (sp 241 p rfl (fun p=>?_) fun p=>?_)))
 refine o_p 1 rfl (lt k0 1 rfl ?_)
 cases p
 exact o_p 4 rfl (o_nil (⟨j8,j9,k0,hx rfl⟩))
 cases p
 exact o_p 6 rfl (o_nil (⟨j8,j9,k0,hx rfl⟩))
 refine o_p 2 rfl (o_no rfl rfl ?_)
 cases p
 exact o_p 12 rfl (o_nil (⟨j1,lr,j3,hx rfl⟩))
 rintro s _ ⟨j6,j7,j8,_,rfl⟩
 refine nx (cd p rfl (fun p=>?_) fun p=>?_)
 cases p
 exact pg rfl (rt (pr (Rt.mk (((((((((((((a2.t b0).t b5).t e2).t e7).t f3).t f8).t g2).t g7).t i2).t i5).t i8).t j2).t j7) ((j8.del 1).del 0) ri)))
 refine sn (sq (sg (o_p 1 rfl (lt j8 0 rfl (o_p 2 rfl (obk p fun j9 k0 p=>?_))))))
 refine oq (fun s w=>∃ k1,Le j6 k1∧Inv w k1 ([(X,blk [.string u.name,it u.kind,it u.frm,it u.to,it u.partnerFrom,it u.partnerTo,A,(.slice f5 u.guards.length f6),C,D,it u.read,it u.write,F,it u.at_,H,J,K,it u.direction] 93)]::[(n,blk [.string d0.name,it d0.topology,(.slice V d0.states.length W),(.slice g9 d0.messages.length i0),d,it d0.fault,f,g,h,i] 27)]::S)∧Hx s [(2,pt n),(5,pt X),(261,.bool j9)]) ?_ ?_
 replace p:=k0
 refine sp 251 p rfl (fun p=>?_) fun p=>?_
 refine o_p 1 rfl (lt j8 1 rfl (o_p 3 rfl (sp 256 p rfl (fun p=>?_) fun p=>?_)))
 refine o_p 1 rfl (lt j8 0 rfl (obk p fun _ k2 p=>?_))
 refine ca okf134 rfl (rvb (c134 j8 (RepV.ofInt _ _) (RepV.ofInt _ _) (RepV.ofInt _ _) k2) fun _ k3 k4 k5=>?_)
 refine nf ?_
 cases p
 exact o_p 2 rfl (o_nil (⟨k3,k4,k5,hx rfl⟩))
 refine o_p 2 rfl (o_no rfl rfl ?_)
 cases p
 exact o_p 2 rfl (o_nil (⟨j6,lr,j8,hx rfl⟩))
 refine o_p 7 rfl (o_no rfl rfl ?_)
 cases p
 exact o_p 2 rfl (o_nil (⟨j6,lr,j8,hx rfl⟩))
 rintro s _ ⟨k1,k2,k3,_,rfl⟩
 refine nx (cd p rfl (fun p=>?_) fun p=>?_)
 cases p
 exact pg rfl (rt (pr (Rt.mk ((((((((((((((a2.t b0).t b5).t e2).t e7).t f3).t f8).t g2).t g7).t i2).t i5).t i8).t j2).t j7).t k2) ((k3.del 1).del 0) ri)))
 refine sn (sq (sg (o_p 1 rfl (lt k3 0 rfl (o_p 2 rfl (obk p fun k4 k5 p=>?_))))))
 refine oq (fun s w=>∃ k6,Le k1 k6∧Inv w k6 ([(X,blk [.string u.name,it u.kind,it u.frm,it u.to,it u.partnerFrom,it u.partnerTo,A,(.slice f5 u.guards.length f6),C,D,it u.read,it u.write,F,it u.at_,H,J,K,it u.direction] 93)]::[(n,blk [.string d0.name,it d0.topology,(.slice V d0.states.length W),(.slice g9 d0.messages.length i0),d,it d0.fault,f,g,h,i] 27)]::S)∧Hx s [(275,.bool k4)]) ?_ ?_
 replace p:=k5
 refine sp 265 p rfl (fun p=>?_) fun p=>?_
 refine o_p 1 rfl (lt k3 1 rfl (o_p 3 rfl (sp 270 p rfl (fun p=>?_) fun p=>?_)))
 refine o_p 1 rfl (lt k3 0 rfl (obk p fun _ k7 p=>?_))
 refine ca okf134 rfl (rvb (c134 k3 (RepV.ofInt _ _) (RepV.ofInt _ _) (RepV.ofInt _ _) k7) fun _ k8 k9 m0=>?_)
 refine nf ?_
 cases p
 exact o_p 2 rfl (o_nil (⟨k8,k9,m0,hx rfl⟩))
 refine o_p 2 rfl (o_no rfl rfl ?_)
 cases p
 exact o_p 2 rfl (o_nil (⟨k1,lr,k3,hx rfl⟩))
 refine o_p 7 rfl (o_no rfl rfl ?_)
 cases p
 exact o_p 2 rfl (o_nil (⟨k1,lr,k3,hx rfl⟩))
 rintro s _ ⟨k6,k7,k8,_,rfl⟩
 refine nx (cd p rfl (fun p=>?_) fun p=>?_)
 cases p
 exact pg rfl (rt (pr (Rt.mk (((((((((((((((a2.t b0).t b5).t e2).t e7).t f3).t f8).t g2).t g7).t i2).t i5).t i8).t j2).t j7).t k2).t k7) ((k8.del 1).del 0) ri)))
 cases p
 exact sn (pg rfl (rt (Rt.mk (((((((((((((((a2.t b0).t b5).t e2).t e7).t f3).t f8).t g2).t g7).t i2).t i5).t i8).t j2).t j7).t k2).t k7) ((k8.del 1).del 0) ri)))
theorem c83 {v0 v1 : Value} {d0 : Int} {d1 : Int} (I : Inv w G S) {r : TableR} (h0 : RepV G v0 d0) (h1 : RepV G v1 d1) (p : r7_blank d0 d1 = some r) :
 Calls Tryz.prog 83 #[v0, v1] w (RV (fun v w' => ∃ G' u1 s1 u2 s2 u3 s3, Le G G' ∧ Inv w' G' (s1 :: s2 :: s3 :: S) ∧ OwnL 3 G' s1 u1 r.leaf ∧ OwnN (OwnN (OwnL 3) 24) 136 G' s2 u2 r.branch ∧ OwnL 4 G' s3 u3 r.accept ∧ v = .agg #[.int .i64 r.letters, u1, u2, u3])) := by
 obtain rfl:=h0.int
 obtain rfl:=h1.int
 refine enterM (n:=37) (fun s w v=>RdC Tryz.prog 4 98 s w v) [_,_] Tryz.func83 rfl rfl rfl (resC rfl) fun _=>?_
 refine sg ?_
 refine o_alloc I rfl rfl rfl zero98 fun a _ b=>nf ?_
 refine en (sq ?_)
 refine wpC_drawT hmTryz b (Cl G S) (.node [(0,.any),(1,.any),(3,.any)] (.node [(2,.eff false)] (.leaf [(4,.eff false),(5,.any),(6,.eff false),(7,.eff false)]) (.leaf [(6,.eff false),(4,.eff false),(5,.any),(7,.eff false)])) (.node [] (.node [(4,.eff false)] (.leaf [(2,.eff false),(5,.any),(6,.eff false),(7,.eff false)]) (.leaf [(6,.eff false),(2,.eff false),(5,.any),(7,.eff false)])) (.node [(6,.eff false)] (.leaf [(2,.eff false),(4,.eff false),(5,.any),(7,.eff false)]) (.leaf [(4,.eff false),(2,.eff false),(5,.any),(7,.eff false)])))) (by kernel_rfl) fun _ c=>?_
 refine wpT_node ?_
 refine o_p 3 rfl (o_nil (obk p fun _ d p=>obk p fun _ f p=>?_))
 refine wpT_fork ?_ ?_
 refine wpT_node ?_
 refine o_mks (z:=(0 : Int)) c d rfl rfl rfl elk3 zero3 (fun _=>by rfl) rfl rfl rfl rfl fun g h _ i j=>nf ?_
 refine o_nil ?_
 refine wpT_fork ?_ ?_
 refine wpT_leaf ?_
 refine o_mks (z:=(false : Bool)) j f rfl rfl rfl elk4 zero4 (fun _=>by rfl) rfl rfl rfl rfl fun k l _ m n=>nf ?_
 refine o_bld (cs:=[(0,[it d0]),(1,[g]),(3,[k])]) (res:=[it d0,g,nl,k]) rfl rfl rfl zero98 (by exact ⟨rfl,rfl,⟨rfl,(oneC_cells (OwnL.oneC i)),⟨rfl,(oneC_cells (OwnL.oneC m)),trivial⟩⟩⟩) rfl rfl rfl ?_ rfl
 refine o_alloc n rfl rfl rfl zero98 fun o _ t=>nf ?_
 refine st t 0 rfl rfl (cs:=[it d0,g,nl,k]) rfl (allc rfl (allc (OwnL.oneC i) (allc rfl (allc (OwnL.oneC m) rfl)))) rfl fun _ u=>nf ?_
 refine en (sq (pg rfl ?_))
 have x:=Inv.newNil u
 refine obk p fun y z p=>?_
 refine cq (fun s w=>∃ A B,Inv w G (B::[(o,blk [it d0,g,A,k] 98)]::l::h::[(a,blk [it 0,nl,nl,nl] 98)]::S)∧OwnN (OwnN (OwnL 3) 24) 136 G B A y∧Hx s [(4,pt a),(5,pt o)]) ?_ ?_
 have _:=p
 refine bk (fun (C : Int × List (List (List Int))) s w=>∃ D F,Inv w G (F::[(o,blk [it d0,g,D,k] 98)]::l::h::[(a,blk [it 0,nl,nl,nl] 98)]::S)∧OwnN (OwnN (OwnL 3) 24) 136 G F D C.2∧Hx s [(0,it d0),(1,it d1),(4,pt a),(5,pt o),(6,it C.1)]) z ⟨nl,[],x,(OwnN.nil (α:=List (List Int)) (Ev:=OwnN (OwnL 3) 24) (G:=G) 136),hx rfl⟩ ?_
 clear z
 rintro C _ s _ p ⟨D,F,H,J,_,rfl⟩
 refine sq (pg rfl (cd p rfl (fun p=>?_) fun p=>?_))
 refine sn (sq ?_)
 refine wpC_block ?_
 refine pg rfl (sq (pg rfl ?_))
 have K:=Inv.newNil H
 refine obk p fun M N p=>?_
 refine cq (fun s w=>∃ O P,Inv w G (P::F::[(o,blk [it d0,g,D,k] 98)]::l::h::[(a,blk [it 0,nl,nl,nl] 98)]::S)∧OwnN (OwnL 3) 24 G P O M∧Hx s [(0,it d0),(1,it d1),(4,pt a),(5,pt o),(6,it C.1),(7,O)]) ?_ ?_
 have _:=p
 refine bk (fun (Q : List (List Int) × Int) s w=>∃ R T,Inv w G (T::F::[(o,blk [it d0,g,D,k] 98)]::l::h::[(a,blk [it 0,nl,nl,nl] 98)]::S)∧OwnN (OwnL 3) 24 G T R Q.1∧Hx s [(0,it d0),(1,it d1),(4,pt a),(5,pt o),(6,it C.1),(7,R),(8,it Q.2)]) N ⟨nl,[],K,(OwnN.nil (α:=List Int) (Ev:=OwnL 3) (G:=G) 24),hx rfl⟩ ?_
 clear N
 rintro Q _ s _ p ⟨R,T,U,V,_,rfl⟩
 refine sq (pg rfl (cd p rfl (fun p=>?_) fun p=>?_))
 refine sn (sq ?_)
 refine wpC_block ?_
 refine rg (o_p 2 rfl (obk p fun W X p=>?_))
 refine o_mks (z:=(0 : Int)) U X rfl rfl rfl elk3 zero3 (fun _=>by rfl) rfl rfl rfl rfl fun Y Z _ a0 a1=>nf ?_
 refine o_bs (l:=[Raw.mk Y]) (vs:=[Y]) a1 ⟨RepV.ofRaw _ (own_one a0),trivial⟩ rfl rfl rfl ⟨rfl,rfl,trivial⟩ rfl elk24 rfl rfl rfl fun a2 a3 a4 _ a5 a6=>nf ?_
 have a7 : OwnN (OwnL 3) 24 G ([(a2,blk a4 24)] ++ Z) (.slice (some ⟨a2,0,none⟩) 1 a3) [List.replicate W (0 : Int)]:=OwnN.one a5 a0
 have a8:=Inv.join (Inv.front (Inv.front a6 1 rfl) 1 rfl)
 refine obk p fun _ a9 p=>?_
 refine o_appN (el:=24) (Inv.front a8 1 rfl) V a7 a9 (fun {S' g1' rs1 rs2 rr} hJ hS hO hL hA hK=>o_app hJ 0 hS hO hL hA rfl rfl rfl rfl rfl rfl elk24 rfl rfl rfl rfl hK) fun b0 b1 _ b2 b3=>nf ?_
 cases p
 exact o_p 1 rfl (o_nil (bn (nx (rg (o_p 3 rfl (o_nil (nx ⟨_,rfl,⟨b0,b1,b3,b2,hx rfl⟩⟩)))))))
 refine ex (px ?_)
 cases p
 refine ⟨_,rfl,?_⟩
 rintro rfl
 exact bh (nx (⟨R,T,U,V,hx rfl⟩))
 rintro s _ ⟨O,P,Q,R,_,rfl⟩
 refine nx (rg (o_p 1 rfl (lt Q 2 rfl (o_p 1 rfl ?_))))
 refine o_bs (l:=[Raw.mk O]) (vs:=[O]) Q ⟨RepV.ofRaw _ (own_one R),trivial⟩ rfl rfl rfl ⟨rfl,rfl,trivial⟩ rfl elk136 rfl rfl rfl fun T U V _ W X=>nf ?_
 have Y : OwnN (OwnN (OwnL 3) 24) 136 G ([(T,blk V 136)] ++ P) (.slice (some ⟨T,0,none⟩) 1 U) [M]:=OwnN.one W R
 have Z:=Inv.join (Inv.front (Inv.front X 1 rfl) 1 rfl)
 refine obk p fun _ a0 p=>?_
 refine o_appN (el:=136) (Inv.front Z 1 rfl) J Y a0 (fun {S' g1' rs1 rs2 rr} hJ hS hO hL hA hK=>o_app hJ 0 hS hO hL hA rfl rfl rfl rfl rfl rfl elk136 rfl rfl rfl rfl hK) fun a1 a2 _ a3 a4=>nf ?_
 refine o_p 1 rfl ?_
 refine st a4 1 rfl rfl (cs:=[a1]) (oneC_cells (own_one a3)) (allc (own_one a3) rfl) rfl fun _ a5=>nf ?_
 cases p
 exact o_nil (bn (nx (rg (o_p 3 rfl (o_nil (nx ⟨_,rfl,⟨a1,a2,a5,a3,hx rfl⟩⟩))))))
 refine ex (px ?_)
 cases p
 refine ⟨_,rfl,?_⟩
 rintro rfl
 exact bh (nx (⟨D,F,H,J,hx rfl⟩))
 rintro s _ ⟨A,B,C,D,_,rfl⟩
 refine nx (sg (lta C 1 rfl (cs:=[it d0,g,A,k]) rfl ?_))
 refine st C 4 rfl rfl (cs:=[it d0,g,A,k]) rfl (allc rfl (allc (OwnL.oneC i) (allc (own_one D) (allc (OwnL.oneC m) rfl)))) rfl fun _ F=>nf ?_
 cases p
 exact en (rt (⟨_,RdC.mk F (.S 4 rfl) rfl rfl,⟨G,g,h,A,B,k,l,lr,(Inv.front (Inv.front (Inv.front ((F.del 4).del 1) 1 rfl) 1 rfl) 2 rfl),i,D,m,rfl⟩⟩))
 refine wpT_leaf ?_
 refine o_alloc j rfl rfl rfl zero98 fun k _ l=>nf ?_
 refine o_mks (z:=(false : Bool)) l f rfl rfl rfl elk4 zero4 (fun _=>by rfl) rfl rfl rfl rfl fun m n _ o t=>nf ?_
 refine o_bld (cs:=[(0,[it d0]),(1,[g]),(3,[m])]) (res:=[it d0,g,nl,m]) rfl rfl rfl zero98 (by exact ⟨rfl,rfl,⟨rfl,(oneC_cells (OwnL.oneC i)),⟨rfl,(oneC_cells (OwnL.oneC o)),trivial⟩⟩⟩) rfl rfl rfl ?_ rfl
 refine st t 1 rfl rfl (cs:=[it d0,g,nl,m]) rfl (allc rfl (allc (OwnL.oneC i) (allc rfl (allc (OwnL.oneC o) rfl)))) rfl fun _ u=>nf ?_
 refine en (sq (pg rfl ?_))
 have x:=Inv.newNil u
 refine obk p fun y z p=>?_
 refine cq (fun s w=>∃ A B,Inv w G (B::n::[(k,blk [it d0,g,A,m] 98)]::h::[(a,blk [it 0,nl,nl,nl] 98)]::S)∧OwnN (OwnN (OwnL 3) 24) 136 G B A y∧Hx s [(4,pt a),(5,pt k)]) ?_ ?_
 have _:=p
 refine bk (fun (C : Int × List (List (List Int))) s w=>∃ D F,Inv w G (F::n::[(k,blk [it d0,g,D,m] 98)]::h::[(a,blk [it 0,nl,nl,nl] 98)]::S)∧OwnN (OwnN (OwnL 3) 24) 136 G F D C.2∧Hx s [(0,it d0),(1,it d1),(4,pt a),(5,pt k),(6,it C.1)]) z ⟨nl,[],x,(OwnN.nil (α:=List (List Int)) (Ev:=OwnN (OwnL 3) 24) (G:=G) 136),hx rfl⟩ ?_
 clear z
 rintro C _ s _ p ⟨D,F,H,J,_,rfl⟩
 refine sq (pg rfl (cd p rfl (fun p=>?_) fun p=>?_))
 refine sn (sq ?_)
 refine wpC_block ?_
 refine pg rfl (sq (pg rfl ?_))
 have K:=Inv.newNil H
 refine obk p fun M N p=>?_
 refine cq (fun s w=>∃ O P,Inv w G (P::F::n::[(k,blk [it d0,g,D,m] 98)]::h::[(a,blk [it 0,nl,nl,nl] 98)]::S)∧OwnN (OwnL 3) 24 G P O M∧Hx s [(0,it d0),(1,it d1),(4,pt a),(5,pt k),(6,it C.1),(7,O)]) ?_ ?_
 have _:=p
 refine bk (fun (Q : List (List Int) × Int) s w=>∃ R T,Inv w G (T::F::n::[(k,blk [it d0,g,D,m] 98)]::h::[(a,blk [it 0,nl,nl,nl] 98)]::S)∧OwnN (OwnL 3) 24 G T R Q.1∧Hx s [(0,it d0),(1,it d1),(4,pt a),(5,pt k),(6,it C.1),(7,R),(8,it Q.2)]) N ⟨nl,[],K,(OwnN.nil (α:=List Int) (Ev:=OwnL 3) (G:=G) 24),hx rfl⟩ ?_
 clear N
 rintro Q _ s _ p ⟨R,T,U,V,_,rfl⟩
 refine sq (pg rfl (cd p rfl (fun p=>?_) fun p=>?_))
 refine sn (sq ?_)
 refine wpC_block ?_
 refine rg (o_p 2 rfl (obk p fun W X p=>?_))
 refine o_mks (z:=(0 : Int)) U X rfl rfl rfl elk3 zero3 (fun _=>by rfl) rfl rfl rfl rfl fun Y Z _ a0 a1=>nf ?_
 refine o_bs (l:=[Raw.mk Y]) (vs:=[Y]) a1 ⟨RepV.ofRaw _ (own_one a0),trivial⟩ rfl rfl rfl ⟨rfl,rfl,trivial⟩ rfl elk24 rfl rfl rfl fun a2 a3 a4 _ a5 a6=>nf ?_
 have a7 : OwnN (OwnL 3) 24 G ([(a2,blk a4 24)] ++ Z) (.slice (some ⟨a2,0,none⟩) 1 a3) [List.replicate W (0 : Int)]:=OwnN.one a5 a0
 have a8:=Inv.join (Inv.front (Inv.front a6 1 rfl) 1 rfl)
 refine obk p fun _ a9 p=>?_
 refine o_appN (el:=24) (Inv.front a8 1 rfl) V a7 a9 (fun {S' g1' rs1 rs2 rr} hJ hS hO hL hA hK=>o_app hJ 0 hS hO hL hA rfl rfl rfl rfl rfl rfl elk24 rfl rfl rfl rfl hK) fun b0 b1 _ b2 b3=>nf ?_
 cases p
 exact o_p 1 rfl (o_nil (bn (nx (rg (o_p 3 rfl (o_nil (nx ⟨_,rfl,⟨b0,b1,b3,b2,hx rfl⟩⟩)))))))
 refine ex (px ?_)
 cases p
 refine ⟨_,rfl,?_⟩
 rintro rfl
 exact bh (nx (⟨R,T,U,V,hx rfl⟩))
 rintro s _ ⟨O,P,Q,R,_,rfl⟩
 refine nx (rg (o_p 1 rfl (lt Q 3 rfl (o_p 1 rfl ?_))))
 refine o_bs (l:=[Raw.mk O]) (vs:=[O]) Q ⟨RepV.ofRaw _ (own_one R),trivial⟩ rfl rfl rfl ⟨rfl,rfl,trivial⟩ rfl elk136 rfl rfl rfl fun T U V _ W X=>nf ?_
 have Y : OwnN (OwnN (OwnL 3) 24) 136 G ([(T,blk V 136)] ++ P) (.slice (some ⟨T,0,none⟩) 1 U) [M]:=OwnN.one W R
 have Z:=Inv.join (Inv.front (Inv.front X 1 rfl) 1 rfl)
 refine obk p fun _ a0 p=>?_
 refine o_appN (el:=136) (Inv.front Z 1 rfl) J Y a0 (fun {S' g1' rs1 rs2 rr} hJ hS hO hL hA hK=>o_app hJ 0 hS hO hL hA rfl rfl rfl rfl rfl rfl elk136 rfl rfl rfl rfl hK) fun a1 a2 _ a3 a4=>nf ?_
 refine o_p 1 rfl ?_
 refine st a4 2 rfl rfl (cs:=[a1]) (oneC_cells (own_one a3)) (allc (own_one a3) rfl) rfl fun _ a5=>nf ?_
 cases p
 exact o_nil (bn (nx (rg (o_p 3 rfl (o_nil (nx ⟨_,rfl,⟨a1,a2,a5,a3,hx rfl⟩⟩))))))
 refine ex (px ?_)
 cases p
 refine ⟨_,rfl,?_⟩
 rintro rfl
 exact bh (nx (⟨D,F,H,J,hx rfl⟩))
 rintro s _ ⟨A,B,C,D,_,rfl⟩
 refine nx (sg (lta C 2 rfl (cs:=[it d0,g,A,m]) rfl ?_))
 refine st C 4 rfl rfl (cs:=[it d0,g,A,m]) rfl (allc rfl (allc (OwnL.oneC i) (allc (own_one D) (allc (OwnL.oneC o) rfl)))) rfl fun _ F=>nf ?_
 cases p
 exact en (rt (⟨_,RdC.mk F (.S 4 rfl) rfl rfl,⟨G,g,h,A,B,m,n,lr,(Inv.front (Inv.front (Inv.front ((F.del 4).del 2) 1 rfl) 1 rfl) 2 rfl),i,D,o,rfl⟩⟩))
 refine wpT_node0 ?_ ?_
 refine wpT_node ?_
 refine o_mks (z:=(false : Bool)) c f rfl rfl rfl elk4 zero4 (fun _=>by rfl) rfl rfl rfl rfl fun g h _ i j=>nf ?_
 refine o_nil ?_
 refine wpT_fork ?_ ?_
 refine wpT_leaf ?_
 refine o_mks (z:=(0 : Int)) j d rfl rfl rfl elk3 zero3 (fun _=>by rfl) rfl rfl rfl rfl fun k l _ m n=>nf ?_
 refine o_bld (cs:=[(0,[it d0]),(1,[k]),(3,[g])]) (res:=[it d0,k,nl,g]) rfl rfl rfl zero98 (by exact ⟨rfl,rfl,⟨rfl,(oneC_cells (OwnL.oneC m)),⟨rfl,(oneC_cells (OwnL.oneC i)),trivial⟩⟩⟩) rfl rfl rfl ?_ rfl
 refine o_alloc n rfl rfl rfl zero98 fun o _ t=>nf ?_
 refine st t 0 rfl rfl (cs:=[it d0,k,nl,g]) rfl (allc rfl (allc (OwnL.oneC m) (allc rfl (allc (OwnL.oneC i) rfl)))) rfl fun _ u=>nf ?_
 refine en (sq (pg rfl ?_))
 have x:=Inv.newNil u
 refine obk p fun y z p=>?_
 refine cq (fun s w=>∃ A B,Inv w G (B::[(o,blk [it d0,k,A,g] 98)]::l::h::[(a,blk [it 0,nl,nl,nl] 98)]::S)∧OwnN (OwnN (OwnL 3) 24) 136 G B A y∧Hx s [(4,pt a),(5,pt o)]) ?_ ?_
 have _:=p
 refine bk (fun (C : Int × List (List (List Int))) s w=>∃ D F,Inv w G (F::[(o,blk [it d0,k,D,g] 98)]::l::h::[(a,blk [it 0,nl,nl,nl] 98)]::S)∧OwnN (OwnN (OwnL 3) 24) 136 G F D C.2∧Hx s [(0,it d0),(1,it d1),(4,pt a),(5,pt o),(6,it C.1)]) z ⟨nl,[],x,(OwnN.nil (α:=List (List Int)) (Ev:=OwnN (OwnL 3) 24) (G:=G) 136),hx rfl⟩ ?_
 clear z
 rintro C _ s _ p ⟨D,F,H,J,_,rfl⟩
 refine sq (pg rfl (cd p rfl (fun p=>?_) fun p=>?_))
 refine sn (sq ?_)
 refine wpC_block ?_
 refine pg rfl (sq (pg rfl ?_))
 have K:=Inv.newNil H
 refine obk p fun M N p=>?_
 refine cq (fun s w=>∃ O P,Inv w G (P::F::[(o,blk [it d0,k,D,g] 98)]::l::h::[(a,blk [it 0,nl,nl,nl] 98)]::S)∧OwnN (OwnL 3) 24 G P O M∧Hx s [(0,it d0),(1,it d1),(4,pt a),(5,pt o),(6,it C.1),(7,O)]) ?_ ?_
 have _:=p
 refine bk (fun (Q : List (List Int) × Int) s w=>∃ R T,Inv w G (T::F::[(o,blk [it d0,k,D,g] 98)]::l::h::[(a,blk [it 0,nl,nl,nl] 98)]::S)∧OwnN (OwnL 3) 24 G T R Q.1∧Hx s [(0,it d0),(1,it d1),(4,pt a),(5,pt o),(6,it C.1),(7,R),(8,it Q.2)]) N ⟨nl,[],K,(OwnN.nil (α:=List Int) (Ev:=OwnL 3) (G:=G) 24),hx rfl⟩ ?_
 clear N
 rintro Q _ s _ p ⟨R,T,U,V,_,rfl⟩
 refine sq (pg rfl (cd p rfl (fun p=>?_) fun p=>?_))
 refine sn (sq ?_)
 refine wpC_block ?_
 refine rg (o_p 2 rfl (obk p fun W X p=>?_))
 refine o_mks (z:=(0 : Int)) U X rfl rfl rfl elk3 zero3 (fun _=>by rfl) rfl rfl rfl rfl fun Y Z _ a0 a1=>nf ?_
 refine o_bs (l:=[Raw.mk Y]) (vs:=[Y]) a1 ⟨RepV.ofRaw _ (own_one a0),trivial⟩ rfl rfl rfl ⟨rfl,rfl,trivial⟩ rfl elk24 rfl rfl rfl fun a2 a3 a4 _ a5 a6=>nf ?_
 have a7 : OwnN (OwnL 3) 24 G ([(a2,blk a4 24)] ++ Z) (.slice (some ⟨a2,0,none⟩) 1 a3) [List.replicate W (0 : Int)]:=OwnN.one a5 a0
 have a8:=Inv.join (Inv.front (Inv.front a6 1 rfl) 1 rfl)
 refine obk p fun _ a9 p=>?_
 refine o_appN (el:=24) (Inv.front a8 1 rfl) V a7 a9 (fun {S' g1' rs1 rs2 rr} hJ hS hO hL hA hK=>o_app hJ 0 hS hO hL hA rfl rfl rfl rfl rfl rfl elk24 rfl rfl rfl rfl hK) fun b0 b1 _ b2 b3=>nf ?_
 cases p
 exact o_p 1 rfl (o_nil (bn (nx (rg (o_p 3 rfl (o_nil (nx ⟨_,rfl,⟨b0,b1,b3,b2,hx rfl⟩⟩)))))))
 refine ex (px ?_)
 cases p
 refine ⟨_,rfl,?_⟩
 rintro rfl
 exact bh (nx (⟨R,T,U,V,hx rfl⟩))
 rintro s _ ⟨O,P,Q,R,_,rfl⟩
 refine nx (rg (o_p 1 rfl (lt Q 2 rfl (o_p 1 rfl ?_))))
 refine o_bs (l:=[Raw.mk O]) (vs:=[O]) Q ⟨RepV.ofRaw _ (own_one R),trivial⟩ rfl rfl rfl ⟨rfl,rfl,trivial⟩ rfl elk136 rfl rfl rfl fun T U V _ W X=>nf ?_
 have Y : OwnN (OwnN (OwnL 3) 24) 136 G ([(T,blk V 136)] ++ P) (.slice (some ⟨T,0,none⟩) 1 U) [M]:=OwnN.one W R
 have Z:=Inv.join (Inv.front (Inv.front X 1 rfl) 1 rfl)
 refine obk p fun _ a0 p=>?_
 refine o_appN (el:=136) (Inv.front Z 1 rfl) J Y a0 (fun {S' g1' rs1 rs2 rr} hJ hS hO hL hA hK=>o_app hJ 0 hS hO hL hA rfl rfl rfl rfl rfl rfl elk136 rfl rfl rfl rfl hK) fun a1 a2 _ a3 a4=>nf ?_
 refine o_p 1 rfl ?_
 refine st a4 1 rfl rfl (cs:=[a1]) (oneC_cells (own_one a3)) (allc (own_one a3) rfl) rfl fun _ a5=>nf ?_
 cases p
 exact o_nil (bn (nx (rg (o_p 3 rfl (o_nil (nx ⟨_,rfl,⟨a1,a2,a5,a3,hx rfl⟩⟩))))))
 refine ex (px ?_)
 cases p
 refine ⟨_,rfl,?_⟩
 rintro rfl
 exact bh (nx (⟨D,F,H,J,hx rfl⟩))
 rintro s _ ⟨A,B,C,D,_,rfl⟩
 refine nx (sg (lta C 1 rfl (cs:=[it d0,k,A,g]) rfl ?_))
 refine st C 4 rfl rfl (cs:=[it d0,k,A,g]) rfl (allc rfl (allc (OwnL.oneC m) (allc (own_one D) (allc (OwnL.oneC i) rfl)))) rfl fun _ F=>nf ?_
 cases p
 exact en (rt (⟨_,RdC.mk F (.S 4 rfl) rfl rfl,⟨G,k,l,A,B,g,h,lr,(Inv.front (Inv.front (Inv.front ((F.del 4).del 1) 2 rfl) 1 rfl) 2 rfl),m,D,i,rfl⟩⟩))
 refine wpT_leaf ?_
 refine o_alloc j rfl rfl rfl zero98 fun k _ l=>nf ?_
 refine o_mks (z:=(0 : Int)) l d rfl rfl rfl elk3 zero3 (fun _=>by rfl) rfl rfl rfl rfl fun m n _ o t=>nf ?_
 refine o_bld (cs:=[(0,[it d0]),(1,[m]),(3,[g])]) (res:=[it d0,m,nl,g]) rfl rfl rfl zero98 (by exact ⟨rfl,rfl,⟨rfl,(oneC_cells (OwnL.oneC o)),⟨rfl,(oneC_cells (OwnL.oneC i)),trivial⟩⟩⟩) rfl rfl rfl ?_ rfl
 refine st t 1 rfl rfl (cs:=[it d0,m,nl,g]) rfl (allc rfl (allc (OwnL.oneC o) (allc rfl (allc (OwnL.oneC i) rfl)))) rfl fun _ u=>nf ?_
 refine en (sq (pg rfl ?_))
 have x:=Inv.newNil u
 refine obk p fun y z p=>?_
 refine cq (fun s w=>∃ A B,Inv w G (B::n::[(k,blk [it d0,m,A,g] 98)]::h::[(a,blk [it 0,nl,nl,nl] 98)]::S)∧OwnN (OwnN (OwnL 3) 24) 136 G B A y∧Hx s [(4,pt a),(5,pt k)]) ?_ ?_
 have _:=p
 refine bk (fun (C : Int × List (List (List Int))) s w=>∃ D F,Inv w G (F::n::[(k,blk [it d0,m,D,g] 98)]::h::[(a,blk [it 0,nl,nl,nl] 98)]::S)∧OwnN (OwnN (OwnL 3) 24) 136 G F D C.2∧Hx s [(0,it d0),(1,it d1),(4,pt a),(5,pt k),(6,it C.1)]) z ⟨nl,[],x,(OwnN.nil (α:=List (List Int)) (Ev:=OwnN (OwnL 3) 24) (G:=G) 136),hx rfl⟩ ?_
 clear z
 rintro C _ s _ p ⟨D,F,H,J,_,rfl⟩
 refine sq (pg rfl (cd p rfl (fun p=>?_) fun p=>?_))
 refine sn (sq ?_)
 refine wpC_block ?_
 refine pg rfl (sq (pg rfl ?_))
 have K:=Inv.newNil H
 refine obk p fun M N p=>?_
 refine cq (fun s w=>∃ O P,Inv w G (P::F::n::[(k,blk [it d0,m,D,g] 98)]::h::[(a,blk [it 0,nl,nl,nl] 98)]::S)∧OwnN (OwnL 3) 24 G P O M∧Hx s [(0,it d0),(1,it d1),(4,pt a),(5,pt k),(6,it C.1),(7,O)]) ?_ ?_
 have _:=p
 refine bk (fun (Q : List (List Int) × Int) s w=>∃ R T,Inv w G (T::F::n::[(k,blk [it d0,m,D,g] 98)]::h::[(a,blk [it 0,nl,nl,nl] 98)]::S)∧OwnN (OwnL 3) 24 G T R Q.1∧Hx s [(0,it d0),(1,it d1),(4,pt a),(5,pt k),(6,it C.1),(7,R),(8,it Q.2)]) N ⟨nl,[],K,(OwnN.nil (α:=List Int) (Ev:=OwnL 3) (G:=G) 24),hx rfl⟩ ?_
 clear N
 rintro Q _ s _ p ⟨R,T,U,V,_,rfl⟩
 refine sq (pg rfl (cd p rfl (fun p=>?_) fun p=>?_))
 refine sn (sq ?_)
 refine wpC_block ?_
 refine rg (o_p 2 rfl (obk p fun W X p=>?_))
 refine o_mks (z:=(0 : Int)) U X rfl rfl rfl elk3 zero3 (fun _=>by rfl) rfl rfl rfl rfl fun Y Z _ a0 a1=>nf ?_
 refine o_bs (l:=[Raw.mk Y]) (vs:=[Y]) a1 ⟨RepV.ofRaw _ (own_one a0),trivial⟩ rfl rfl rfl ⟨rfl,rfl,trivial⟩ rfl elk24 rfl rfl rfl fun a2 a3 a4 _ a5 a6=>nf ?_
 have a7 : OwnN (OwnL 3) 24 G ([(a2,blk a4 24)] ++ Z) (.slice (some ⟨a2,0,none⟩) 1 a3) [List.replicate W (0 : Int)]:=OwnN.one a5 a0
 have a8:=Inv.join (Inv.front (Inv.front a6 1 rfl) 1 rfl)
 refine obk p fun _ a9 p=>?_
 refine o_appN (el:=24) (Inv.front a8 1 rfl) V a7 a9 (fun {S' g1' rs1 rs2 rr} hJ hS hO hL hA hK=>o_app hJ 0 hS hO hL hA rfl rfl rfl rfl rfl rfl elk24 rfl rfl rfl rfl hK) fun b0 b1 _ b2 b3=>nf ?_
 cases p
 exact o_p 1 rfl (o_nil (bn (nx (rg (o_p 3 rfl (o_nil (nx ⟨_,rfl,⟨b0,b1,b3,b2,hx rfl⟩⟩)))))))
 refine ex (px ?_)
 cases p
 refine ⟨_,rfl,?_⟩
 rintro rfl
 exact bh (nx (⟨R,T,U,V,hx rfl⟩))
 rintro s _ ⟨O,P,Q,R,_,rfl⟩
 refine nx (rg (o_p 1 rfl (lt Q 3 rfl (o_p 1 rfl ?_))))
 refine o_bs (l:=[Raw.mk O]) (vs:=[O]) Q ⟨RepV.ofRaw _ (own_one R),trivial⟩ rfl rfl rfl ⟨rfl,rfl,trivial⟩ rfl elk136 rfl rfl rfl fun T U V _ W X=>nf ?_
 have Y : OwnN (OwnN (OwnL 3) 24) 136 G ([(T,blk V 136)] ++ P) (.slice (some ⟨T,0,none⟩) 1 U) [M]:=OwnN.one W R
 have Z:=Inv.join (Inv.front (Inv.front X 1 rfl) 1 rfl)
 refine obk p fun _ a0 p=>?_
 refine o_appN (el:=136) (Inv.front Z 1 rfl) J Y a0 (fun {S' g1' rs1 rs2 rr} hJ hS hO hL hA hK=>o_app hJ 0 hS hO hL hA rfl rfl rfl rfl rfl rfl elk136 rfl rfl rfl rfl hK) fun a1 a2 _ a3 a4=>nf ?_
 refine o_p 1 rfl ?_
 refine st a4 2 rfl rfl (cs:=[a1]) (oneC_cells (own_one a3)) (allc (own_one a3) rfl) rfl fun _ a5=>nf ?_
 cases p
 exact o_nil (bn (nx (rg (o_p 3 rfl (o_nil (nx ⟨_,rfl,⟨a1,a2,a5,a3,hx rfl⟩⟩))))))
 refine ex (px ?_)
 cases p
 refine ⟨_,rfl,?_⟩
 rintro rfl
 exact bh (nx (⟨D,F,H,J,hx rfl⟩))
 rintro s _ ⟨A,B,C,D,_,rfl⟩
 refine nx (sg (lta C 2 rfl (cs:=[it d0,m,A,g]) rfl ?_))
 refine st C 4 rfl rfl (cs:=[it d0,m,A,g]) rfl (allc rfl (allc (OwnL.oneC o) (allc (own_one D) (allc (OwnL.oneC i) rfl)))) rfl fun _ F=>nf ?_
 cases p
 exact en (rt (⟨_,RdC.mk F (.S 4 rfl) rfl rfl,⟨G,m,n,A,B,g,h,lr,(Inv.front (Inv.front (Inv.front ((F.del 4).del 2) 2 rfl) 1 rfl) 2 rfl),o,D,i,rfl⟩⟩))
 refine wpT_node ?_
 refine o_alloc c rfl rfl rfl zero98 fun g _ h=>nf ?_
 refine o_nil ?_
 refine wpT_fork ?_ ?_
 refine wpT_leaf ?_
 refine o_mks (z:=(0 : Int)) h d rfl rfl rfl elk3 zero3 (fun _=>by rfl) rfl rfl rfl rfl fun i j _ k l=>nf ?_
 refine o_mks (z:=(false : Bool)) l f rfl rfl rfl elk4 zero4 (fun _=>by rfl) rfl rfl rfl rfl fun m n _ o t=>nf ?_
 refine o_bld (cs:=[(0,[it d0]),(1,[i]),(3,[m])]) (res:=[it d0,i,nl,m]) rfl rfl rfl zero98 (by exact ⟨rfl,rfl,⟨rfl,(oneC_cells (OwnL.oneC k)),⟨rfl,(oneC_cells (OwnL.oneC o)),trivial⟩⟩⟩) rfl rfl rfl ?_ rfl
 refine st t 2 rfl rfl (cs:=[it d0,i,nl,m]) rfl (allc rfl (allc (OwnL.oneC k) (allc rfl (allc (OwnL.oneC o) rfl)))) rfl fun _ u=>nf ?_
 refine en (sq (pg rfl ?_))
 have x:=Inv.newNil u
 refine obk p fun y z p=>?_
 refine cq (fun s w=>∃ A B,Inv w G (B::n::j::[(g,blk [it d0,i,A,m] 98)]::[(a,blk [it 0,nl,nl,nl] 98)]::S)∧OwnN (OwnN (OwnL 3) 24) 136 G B A y∧Hx s [(4,pt a),(5,pt g)]) ?_ ?_
 have _:=p
 refine bk (fun (C : Int × List (List (List Int))) s w=>∃ D F,Inv w G (F::n::j::[(g,blk [it d0,i,D,m] 98)]::[(a,blk [it 0,nl,nl,nl] 98)]::S)∧OwnN (OwnN (OwnL 3) 24) 136 G F D C.2∧Hx s [(0,it d0),(1,it d1),(4,pt a),(5,pt g),(6,it C.1)]) z ⟨nl,[],x,(OwnN.nil (α:=List (List Int)) (Ev:=OwnN (OwnL 3) 24) (G:=G) 136),hx rfl⟩ ?_
 clear z
 rintro C _ s _ p ⟨D,F,H,J,_,rfl⟩
 refine sq (pg rfl (cd p rfl (fun p=>?_) fun p=>?_))
 refine sn (sq ?_)
 refine wpC_block ?_
 refine pg rfl (sq (pg rfl ?_))
 have K:=Inv.newNil H
 refine obk p fun M N p=>?_
 refine cq (fun s w=>∃ O P,Inv w G (P::F::n::j::[(g,blk [it d0,i,D,m] 98)]::[(a,blk [it 0,nl,nl,nl] 98)]::S)∧OwnN (OwnL 3) 24 G P O M∧Hx s [(0,it d0),(1,it d1),(4,pt a),(5,pt g),(6,it C.1),(7,O)]) ?_ ?_
 have _:=p
 refine bk (fun (Q : List (List Int) × Int) s w=>∃ R T,Inv w G (T::F::n::j::[(g,blk [it d0,i,D,m] 98)]::[(a,blk [it 0,nl,nl,nl] 98)]::S)∧OwnN (OwnL 3) 24 G T R Q.1∧Hx s [(0,it d0),(1,it d1),(4,pt a),(5,pt g),(6,it C.1),(7,R),(8,it Q.2)]) N ⟨nl,[],K,(OwnN.nil (α:=List Int) (Ev:=OwnL 3) (G:=G) 24),hx rfl⟩ ?_
 clear N
 rintro Q _ s _ p ⟨R,T,U,V,_,rfl⟩
 refine sq (pg rfl (cd p rfl (fun p=>?_) fun p=>?_))
 refine sn (sq ?_)
 refine wpC_block ?_
 refine rg (o_p 2 rfl (obk p fun W X p=>?_))
 refine o_mks (z:=(0 : Int)) U X rfl rfl rfl elk3 zero3 (fun _=>by rfl) rfl rfl rfl rfl fun Y Z _ a0 a1=>nf ?_
 refine o_bs (l:=[Raw.mk Y]) (vs:=[Y]) a1 ⟨RepV.ofRaw _ (own_one a0),trivial⟩ rfl rfl rfl ⟨rfl,rfl,trivial⟩ rfl elk24 rfl rfl rfl fun a2 a3 a4 _ a5 a6=>nf ?_
 have a7 : OwnN (OwnL 3) 24 G ([(a2,blk a4 24)] ++ Z) (.slice (some ⟨a2,0,none⟩) 1 a3) [List.replicate W (0 : Int)]:=OwnN.one a5 a0
 have a8:=Inv.join (Inv.front (Inv.front a6 1 rfl) 1 rfl)
 refine obk p fun _ a9 p=>?_
 refine o_appN (el:=24) (Inv.front a8 1 rfl) V a7 a9 (fun {S' g1' rs1 rs2 rr} hJ hS hO hL hA hK=>o_app hJ 0 hS hO hL hA rfl rfl rfl rfl rfl rfl elk24 rfl rfl rfl rfl hK) fun b0 b1 _ b2 b3=>nf ?_
 cases p
 exact o_p 1 rfl (o_nil (bn (nx (rg (o_p 3 rfl (o_nil (nx ⟨_,rfl,⟨b0,b1,b3,b2,hx rfl⟩⟩)))))))
 refine ex (px ?_)
 cases p
 refine ⟨_,rfl,?_⟩
 rintro rfl
 exact bh (nx (⟨R,T,U,V,hx rfl⟩))
 rintro s _ ⟨O,P,Q,R,_,rfl⟩
 refine nx (rg (o_p 1 rfl (lt Q 4 rfl (o_p 1 rfl ?_))))
 refine o_bs (l:=[Raw.mk O]) (vs:=[O]) Q ⟨RepV.ofRaw _ (own_one R),trivial⟩ rfl rfl rfl ⟨rfl,rfl,trivial⟩ rfl elk136 rfl rfl rfl fun T U V _ W X=>nf ?_
 have Y : OwnN (OwnN (OwnL 3) 24) 136 G ([(T,blk V 136)] ++ P) (.slice (some ⟨T,0,none⟩) 1 U) [M]:=OwnN.one W R
 have Z:=Inv.join (Inv.front (Inv.front X 1 rfl) 1 rfl)
 refine obk p fun _ a0 p=>?_
 refine o_appN (el:=136) (Inv.front Z 1 rfl) J Y a0 (fun {S' g1' rs1 rs2 rr} hJ hS hO hL hA hK=>o_app hJ 0 hS hO hL hA rfl rfl rfl rfl rfl rfl elk136 rfl rfl rfl rfl hK) fun a1 a2 _ a3 a4=>nf ?_
 refine o_p 1 rfl ?_
 refine st a4 3 rfl rfl (cs:=[a1]) (oneC_cells (own_one a3)) (allc (own_one a3) rfl) rfl fun _ a5=>nf ?_
 cases p
 exact o_nil (bn (nx (rg (o_p 3 rfl (o_nil (nx ⟨_,rfl,⟨a1,a2,a5,a3,hx rfl⟩⟩))))))
 refine ex (px ?_)
 cases p
 refine ⟨_,rfl,?_⟩
 rintro rfl
 exact bh (nx (⟨D,F,H,J,hx rfl⟩))
 rintro s _ ⟨A,B,C,D,_,rfl⟩
 refine nx (sg (lta C 3 rfl (cs:=[it d0,i,A,m]) rfl ?_))
 refine st C 4 rfl rfl (cs:=[it d0,i,A,m]) rfl (allc rfl (allc (OwnL.oneC k) (allc (own_one D) (allc (OwnL.oneC o) rfl)))) rfl fun _ F=>nf ?_
 cases p
 exact en (rt (⟨_,RdC.mk F (.S 4 rfl) rfl rfl,⟨G,i,j,A,B,m,n,lr,(Inv.front (Inv.front (Inv.front ((F.del 4).del 3) 1 rfl) 1 rfl) 2 rfl),k,D,o,rfl⟩⟩))
 refine wpT_leaf ?_
 refine o_mks (z:=(false : Bool)) h f rfl rfl rfl elk4 zero4 (fun _=>by rfl) rfl rfl rfl rfl fun i j _ k l=>nf ?_
 refine o_mks (z:=(0 : Int)) l d rfl rfl rfl elk3 zero3 (fun _=>by rfl) rfl rfl rfl rfl fun m n _ o t=>nf ?_
 refine o_bld (cs:=[(0,[it d0]),(1,[m]),(3,[i])]) (res:=[it d0,m,nl,i]) rfl rfl rfl zero98 (by exact ⟨rfl,rfl,⟨rfl,(oneC_cells (OwnL.oneC o)),⟨rfl,(oneC_cells (OwnL.oneC k)),trivial⟩⟩⟩) rfl rfl rfl ?_ rfl
 refine st t 2 rfl rfl (cs:=[it d0,m,nl,i]) rfl (allc rfl (allc (OwnL.oneC o) (allc rfl (allc (OwnL.oneC k) rfl)))) rfl fun _ u=>nf ?_
 refine en (sq (pg rfl ?_))
 have x:=Inv.newNil u
 refine obk p fun y z p=>?_
 refine cq (fun s w=>∃ A B,Inv w G (B::n::j::[(g,blk [it d0,m,A,i] 98)]::[(a,blk [it 0,nl,nl,nl] 98)]::S)∧OwnN (OwnN (OwnL 3) 24) 136 G B A y∧Hx s [(4,pt a),(5,pt g)]) ?_ ?_
 have _:=p
 refine bk (fun (C : Int × List (List (List Int))) s w=>∃ D F,Inv w G (F::n::j::[(g,blk [it d0,m,D,i] 98)]::[(a,blk [it 0,nl,nl,nl] 98)]::S)∧OwnN (OwnN (OwnL 3) 24) 136 G F D C.2∧Hx s [(0,it d0),(1,it d1),(4,pt a),(5,pt g),(6,it C.1)]) z ⟨nl,[],x,(OwnN.nil (α:=List (List Int)) (Ev:=OwnN (OwnL 3) 24) (G:=G) 136),hx rfl⟩ ?_
 clear z
 rintro C _ s _ p ⟨D,F,H,J,_,rfl⟩
 refine sq (pg rfl (cd p rfl (fun p=>?_) fun p=>?_))
 refine sn (sq ?_)
 refine wpC_block ?_
 refine pg rfl (sq (pg rfl ?_))
 have K:=Inv.newNil H
 refine obk p fun M N p=>?_
 refine cq (fun s w=>∃ O P,Inv w G (P::F::n::j::[(g,blk [it d0,m,D,i] 98)]::[(a,blk [it 0,nl,nl,nl] 98)]::S)∧OwnN (OwnL 3) 24 G P O M∧Hx s [(0,it d0),(1,it d1),(4,pt a),(5,pt g),(6,it C.1),(7,O)]) ?_ ?_
 have _:=p
 refine bk (fun (Q : List (List Int) × Int) s w=>∃ R T,Inv w G (T::F::n::j::[(g,blk [it d0,m,D,i] 98)]::[(a,blk [it 0,nl,nl,nl] 98)]::S)∧OwnN (OwnL 3) 24 G T R Q.1∧Hx s [(0,it d0),(1,it d1),(4,pt a),(5,pt g),(6,it C.1),(7,R),(8,it Q.2)]) N ⟨nl,[],K,(OwnN.nil (α:=List Int) (Ev:=OwnL 3) (G:=G) 24),hx rfl⟩ ?_
 clear N
 rintro Q _ s _ p ⟨R,T,U,V,_,rfl⟩
 refine sq (pg rfl (cd p rfl (fun p=>?_) fun p=>?_))
 refine sn (sq ?_)
 refine wpC_block ?_
 refine rg (o_p 2 rfl (obk p fun W X p=>?_))
 refine o_mks (z:=(0 : Int)) U X rfl rfl rfl elk3 zero3 (fun _=>by rfl) rfl rfl rfl rfl fun Y Z _ a0 a1=>nf ?_
 refine o_bs (l:=[Raw.mk Y]) (vs:=[Y]) a1 ⟨RepV.ofRaw _ (own_one a0),trivial⟩ rfl rfl rfl ⟨rfl,rfl,trivial⟩ rfl elk24 rfl rfl rfl fun a2 a3 a4 _ a5 a6=>nf ?_
 have a7 : OwnN (OwnL 3) 24 G ([(a2,blk a4 24)] ++ Z) (.slice (some ⟨a2,0,none⟩) 1 a3) [List.replicate W (0 : Int)]:=OwnN.one a5 a0
 have a8:=Inv.join (Inv.front (Inv.front a6 1 rfl) 1 rfl)
 refine obk p fun _ a9 p=>?_
 refine o_appN (el:=24) (Inv.front a8 1 rfl) V a7 a9 (fun {S' g1' rs1 rs2 rr} hJ hS hO hL hA hK=>o_app hJ 0 hS hO hL hA rfl rfl rfl rfl rfl rfl elk24 rfl rfl rfl rfl hK) fun b0 b1 _ b2 b3=>nf ?_
 cases p
 exact o_p 1 rfl (o_nil (bn (nx (rg (o_p 3 rfl (o_nil (nx ⟨_,rfl,⟨b0,b1,b3,b2,hx rfl⟩⟩)))))))
 refine ex (px ?_)
 cases p
 refine ⟨_,rfl,?_⟩
 rintro rfl
 exact bh (nx (⟨R,T,U,V,hx rfl⟩))
 rintro s _ ⟨O,P,Q,R,_,rfl⟩
 refine nx (rg (o_p 1 rfl (lt Q 4 rfl (o_p 1 rfl ?_))))
 refine o_bs (l:=[Raw.mk O]) (vs:=[O]) Q ⟨RepV.ofRaw _ (own_one R),trivial⟩ rfl rfl rfl ⟨rfl,rfl,trivial⟩ rfl elk136 rfl rfl rfl fun T U V _ W X=>nf ?_
 have Y : OwnN (OwnN (OwnL 3) 24) 136 G ([(T,blk V 136)] ++ P) (.slice (some ⟨T,0,none⟩) 1 U) [M]:=OwnN.one W R
 have Z:=Inv.join (Inv.front (Inv.front X 1 rfl) 1 rfl)
 refine obk p fun _ a0 p=>?_
 refine o_appN (el:=136) (Inv.front Z 1 rfl) J Y a0 (fun {S' g1' rs1 rs2 rr} hJ hS hO hL hA hK=>o_app hJ 0 hS hO hL hA rfl rfl rfl rfl rfl rfl elk136 rfl rfl rfl rfl hK) fun a1 a2 _ a3 a4=>nf ?_
 refine o_p 1 rfl ?_
 refine st a4 3 rfl rfl (cs:=[a1]) (oneC_cells (own_one a3)) (allc (own_one a3) rfl) rfl fun _ a5=>nf ?_
 cases p
 exact o_nil (bn (nx (rg (o_p 3 rfl (o_nil (nx ⟨_,rfl,⟨a1,a2,a5,a3,hx rfl⟩⟩))))))
 refine ex (px ?_)
 cases p
 refine ⟨_,rfl,?_⟩
 rintro rfl
 exact bh (nx (⟨D,F,H,J,hx rfl⟩))
 rintro s _ ⟨A,B,C,D,_,rfl⟩
 refine nx (sg (lta C 3 rfl (cs:=[it d0,m,A,i]) rfl ?_))
 refine st C 4 rfl rfl (cs:=[it d0,m,A,i]) rfl (allc rfl (allc (OwnL.oneC o) (allc (own_one D) (allc (OwnL.oneC k) rfl)))) rfl fun _ F=>nf ?_
 cases p
 exact en (rt (⟨_,RdC.mk F (.S 4 rfl) rfl rfl,⟨G,m,n,A,B,i,j,lr,(Inv.front (Inv.front (Inv.front ((F.del 4).del 3) 2 rfl) 1 rfl) 2 rfl),o,D,k,rfl⟩⟩))
theorem c96 {v0 v1 : Value} {d0 : TreeAutomaton} {d1 : Int} (I : Inv w G S) {r : TableR × Bool} (h0 : RepV G v0 d0) (h1 : RepV G v1 d1) (p : r7_subsets d0 d1 = some r) :
 Calls Tryz.prog 96 #[v0, v1] w (RV (Rt2 G S r)) := by
 have a:=h0
 obtain ⟨b,c,d,rfl,f,_,_⟩:=TreeAutomaton.unp h0
 obtain rfl:=h1.int
 refine enterM (n:=161) (fun s w v=>∃ x,RdC Tryz.prog 4 98 s w x∧v = .tuple #[x,s 5]) [_,_] Tryz.func96 rfl rfl rfl (resCT rfl) fun _=>sg (o_box I rfl rfl rfl (cs:=[it d0.letters,it d0.states,b,c,d]) rfl fun h _ i=>nf (o_alloc i rfl rfl rfl zero98 fun j _ k=>nf (o_p 1 rfl (en (sg (o_alloc k rfl rfl rfl zero240 fun l _ m=>nf (en (sq (pg rfl ?_)))))))))
 have n:=Inv.newNil m
 refine obk p fun o t p=>cq (fun s w=>∃ u y z,Le G u∧Inv w u (z::[(l,blk [y] 240)]::[(j,blk [it 0,nl,nl,nl] 98)]::[(h,blk [it d0.letters,it d0.states,b,c,d] 36)]::S)∧OwnL 96 u z y o∧Hx s [(1,it d1),(2,pt h),(4,pt j),(6,pt l)]) ?_ ?_
 have _:=p
 refine bk (fun (A : Int × List (List Bool)) s w=>∃ B C D,Le G B∧Inv w B (D::[(l,blk [C] 240)]::[(j,blk [it 0,nl,nl,nl] 98)]::[(h,blk [it d0.letters,it d0.states,b,c,d] 36)]::S)∧OwnL 96 B D C A.2∧Hx s [(1,it d1),(2,pt h),(4,pt j),(6,pt l),(7,it A.1)]) t ⟨G,nl,[],lr,n,(OwnL.nil (α:=List Bool) (G:=G) 96),hx rfl⟩ ?_
 clear t
 rintro A _ s _ p ⟨B,C,D,F,H,J,_,rfl⟩
 refine sq (sg (o_p 2 rfl (lt H 3 rfl (o_p 1 rfl (en (cd p rfl (fun p=>?_) fun p=>?_))))))
 refine sn (sq (wpC_block (rg (lta H 3 rfl (cs:=[it d0.letters,it d0.states,b,c,d]) rfl (o_p 1 rfl (obk p fun _ K p=>ca okf156 rfl (rv (c156 H (a.m F) (RepV.ofInt _ _) K) fun _ _ _ M N O=>nf ?_)))))))
 have P:=(Inv.front N 1 rfl)
 refine obk p fun _ Q p=>ca okf155 rfl (RVm (c155 P (OwnL.mono M J) O Q) ?_)
 rintro _ _ ⟨R,T,U,V,W,X,Y⟩
 obtain rfl:=Y.int
 refine nf ?_
 cases p
 exact o_nil (bn (nx (rg (o_p 3 rfl (o_nil (nx ⟨_,rfl,⟨R,T,U,((F.t M).t V),(Inv.front (Inv.front (Inv.front (Inv.front W 3 rfl) 3 rfl) 2 rfl) 3 rfl),X,hx rfl⟩⟩))))))
 refine ex (px ?_)
 cases p
 refine ⟨_,rfl,?_⟩
 rintro rfl
 exact bh (nx (⟨B,C,D,F,H,J,hx rfl⟩))
 rintro s _ ⟨u,y,z,A,B,C,_,rfl⟩
 refine nx (pg rfl (sq (obk p fun D F p=>cq (fun s w=>∃ H : List (List Bool),∃ J K M,D = .inl H∧Le u J∧Inv w J (M::[(l,blk [K] 240)]::[(j,blk [it 0,nl,nl,nl] 98)]::[(h,blk [it d0.letters,it d0.states,b,c,d] 36)]::S)∧OwnL 96 J M K H∧Hx s [(2,pt h),(4,pt j),(6,pt l)]) ?_ ?_)))
 have N:=p
 refine bk (fun (O : Int × List (List Bool)) s w=>∃ P Q R,Le u P∧Inv w P (R::[(l,blk [Q] 240)]::[(j,blk [it 0,nl,nl,nl] 98)]::[(h,blk [it d0.letters,it d0.states,b,c,d] 36)]::S)∧OwnL 96 P R Q O.2∧Hx s [(1,it d1),(2,pt h),(4,pt j),(6,pt l),(8,it O.1)]) F ⟨u,y,z,lr,B,C,hx rfl⟩ ?_
 clear F
 rintro O _ s _ p ⟨P,Q,R,T,U,V,_,rfl⟩
 refine sq (sg (o_p 2 rfl (lt U 1 rfl ?_)))
 obtain ⟨W,X,rfl⟩:=OwnL.sh V
 refine o_p 2 rfl (en (cd p rfl (fun p=>?_) fun p=>?_))
 refine sn (wpC_block (sg (o_p 1 rfl (lt U 1 rfl (o_p 2 rfl (en (sq (sg (o_p 3 rfl (obk p fun Y Z p=>oq (fun s w=>Inv w P (R::[(l,blk [(.slice W O.2.length X)] 240)]::[(j,blk [it 0,nl,nl,nl] 98)]::[(h,blk [it d0.letters,it d0.states,b,c,d] 36)]::S)∧Hx s [(1,it d1),(2,pt h),(4,pt j),(6,pt l),(8,it O.1),(9,it (O.2.length : Int)),(42,.bool Y)]) ?_ ?_))))))))))
 replace p:=Z
 refine sp 38 p rfl (fun p=>?_) fun p=>?_
 cases p
 exact o_p 4 rfl (o_nil (⟨U,hx rfl⟩))
 cases p
 exact o_p 4 rfl (o_nil (⟨U,hx rfl⟩))
 rintro s _ ⟨a0,_,rfl⟩
 refine nx (cd p rfl (fun p=>?_) fun p=>?_)
 refine sg (o_bld (cs:=[]) (res:=[it 0,nl,nl,nl]) rfl rfl rfl zero98 (by exact trivial) rfl rfl rfl (st a0 2 rfl rfl (cs:=[it 0,nl,nl,nl]) rfl rfl rfl fun _ a1=>nf (o_p 1 rfl (en (rt (pr (br ?_)))))) rfl)
 cases p
 refine ⟨_,rfl,?_⟩
 rintro rfl
 have p:=N
 cases p
 exact br (pr (pr (⟨_,⟨_,RdC.mk a1 (.S 2 rfl) rfl rfl,rfl⟩,Rt2.mk (A.t T) ((((a1.del 3).del 2).del 1).del 0) (TableR.pk (⟨0,([] : List Int),([] : List (List (List Int))),([] : List Bool)⟩ : TableR) ((SliceAt.nil _).repV) ((SliceAt.nil _).repV) ((SliceAt.nil _).repV)) rb⟩)))
 refine sn (sq (pg rfl (obk p fun a1 a2 p=>cq (fun s w=>∃ a3 a4 a5,Le P a3∧Inv w a3 (a5::[(l,blk [a4] 240)]::[(j,blk [it 0,nl,nl,nl] 98)]::[(h,blk [it d0.letters,it d0.states,b,c,d] 36)]::S)∧OwnL 96 a3 a5 a4 a1∧Hx s [(1,it d1),(2,pt h),(4,pt j),(6,pt l),(9,it (O.2.length : Int))]) ?_ ?_)))
 have _:=p
 refine bk (fun (a6 : Int × List (List Bool)) s w=>∃ a7 a8 a9,Le P a7∧Inv w a7 (a9::[(l,blk [a8] 240)]::[(j,blk [it 0,nl,nl,nl] 98)]::[(h,blk [it d0.letters,it d0.states,b,c,d] 36)]::S)∧OwnL 96 a7 a9 a8 a6.2∧Hx s [(1,it d1),(2,pt h),(4,pt j),(6,pt l),(8,it O.1),(9,it (O.2.length : Int)),(10,it a6.1)]) a2 ⟨P,(.slice W O.2.length X),R,lr,a0,V,hx rfl⟩ ?_
 clear a2
 rintro a6 _ s _ p ⟨a7,a8,a9,b0,b1,b2,_,rfl⟩
 refine sq (sg (o_p 2 rfl (lt b1 3 rfl (o_p 1 rfl (en (cd p rfl (fun p=>?_) fun p=>?_))))))
 refine sn (sq (wpC_block (pg rfl (obk p fun b3 b4 p=>cq (fun s w=>∃ b5 b6 b7,Le a7 b5∧Inv w b5 (b7::[(l,blk [b6] 240)]::[(j,blk [it 0,nl,nl,nl] 98)]::[(h,blk [it d0.letters,it d0.states,b,c,d] 36)]::S)∧OwnL 96 b5 b7 b6 b3∧Hx s [(1,it d1),(2,pt h),(4,pt j),(6,pt l),(8,it O.1),(9,it (O.2.length : Int)),(10,it a6.1)]) ?_ ?_))))
 have _:=p
 refine bk (fun (b8 : Int × List (List Bool)) s w=>∃ b9 e0 e1,Le a7 b9∧Inv w b9 (e1::[(l,blk [e0] 240)]::[(j,blk [it 0,nl,nl,nl] 98)]::[(h,blk [it d0.letters,it d0.states,b,c,d] 36)]::S)∧OwnL 96 b9 e1 e0 b8.2∧Hx s [(1,it d1),(2,pt h),(4,pt j),(6,pt l),(8,it O.1),(9,it (O.2.length : Int)),(10,it a6.1),(11,it b8.1)]) b4 ⟨a7,a8,a9,lr,b1,b2,hx rfl⟩ ?_
 clear b4
 rintro b8 _ s _ p ⟨b9,e0,e1,e2,e3,e4,_,rfl⟩
 refine sq (pg rfl (cd p rfl (fun p=>?_) fun p=>?_))
 refine sn (sq (wpC_block (pg rfl (obk p fun e5 e6 p=>cq (fun s w=>∃ e7 e8 e9,Le b9 e7∧Inv w e7 (e9::[(l,blk [e8] 240)]::[(j,blk [it 0,nl,nl,nl] 98)]::[(h,blk [it d0.letters,it d0.states,b,c,d] 36)]::S)∧OwnL 96 e7 e9 e8 e5∧Hx s [(1,it d1),(2,pt h),(4,pt j),(6,pt l),(8,it O.1),(9,it (O.2.length : Int)),(10,it a6.1),(11,it b8.1)]) ?_ ?_))))
 have _:=p
 refine bk (fun (f0 : Int × List (List Bool)) s w=>∃ f1 f2 f3,Le b9 f1∧Inv w f1 (f3::[(l,blk [f2] 240)]::[(j,blk [it 0,nl,nl,nl] 98)]::[(h,blk [it d0.letters,it d0.states,b,c,d] 36)]::S)∧OwnL 96 f1 f3 f2 f0.2∧Hx s [(1,it d1),(2,pt h),(4,pt j),(6,pt l),(8,it O.1),(9,it (O.2.length : Int)),(10,it a6.1),(11,it b8.1),(12,it f0.1)]) e6 ⟨b9,e0,e1,lr,e3,e4,hx rfl⟩ ?_
 clear e6
 rintro f0 _ s _ p ⟨f1,f2,f3,f4,f5,f6,_,rfl⟩
 refine sq (pg rfl (cd p rfl (fun p=>?_) fun p=>?_))
 refine sn (sq (wpC_block (sg (o_p 4 rfl (obk p fun f7 f8 p=>oq (fun s w=>Inv w f1 (f3::[(l,blk [f2] 240)]::[(j,blk [it 0,nl,nl,nl] 98)]::[(h,blk [it d0.letters,it d0.states,b,c,d] 36)]::S)∧Hx s [(1,it d1),(2,pt h),(4,pt j),(6,pt l),(8,it O.1),(9,it (O.2.length : Int)),(10,it a6.1),(11,it b8.1),(12,it f0.1),(67,.bool f7)]) ?_ ?_)))))
 replace p:=f8
 refine sp 63 p rfl (fun p=>?_) fun p=>?_
 cases p
 exact o_p 4 rfl (o_nil (⟨f5,hx rfl⟩))
 cases p
 exact o_p 4 rfl (o_nil (⟨f5,hx rfl⟩))
 rintro s _ ⟨f9,_,rfl⟩
 refine nx (obk p fun g0 g1 p=>cq (fun s w=>∃ g2 g3 g4,Le f1 g2∧Inv w g2 (g4::[(l,blk [g3] 240)]::[(j,blk [it 0,nl,nl,nl] 98)]::[(h,blk [it d0.letters,it d0.states,b,c,d] 36)]::S)∧OwnL 96 g2 g4 g3 g0∧Hx s [(1,it d1),(2,pt h),(4,pt j),(6,pt l),(8,it O.1),(9,it (O.2.length : Int)),(10,it a6.1),(11,it b8.1),(12,it f0.1)]) ?_ ?_)
 replace p:=g1
 refine cd p rfl (fun p=>?_) fun p=>?_
 refine wpC_drawI hmTryz f9 (Cl f1 S) [(0,.here),(1,.any),(2,.any),(3,.here),(4,.any),(5,.any),(6,.here),(7,.any),(8,.here),(9,.any),(10,.any),(11,.here),(12,.eff false),(13,.eff false)] (by kernel_rfl) fun _ g5=>lta g5 3 rfl (cs:=[it d0.letters,it d0.states,b,c,d]) rfl (o_p 2 rfl (lt g5 1 rfl (o_p 1 rfl (obk p fun _ g6 p=>o_ixO f6 g6 rfl rfl rfl rfl rfl rfl rfl rfl (fun _ g7=>o_ldO g5 0 rfl f6 g7 g6 rfl rfl rfl rfl rfl fun _ g8=>o_p 1 rfl (lt g5 1 rfl (o_p 1 rfl (obk p fun _ g9 p=>o_ixO f6 g9 rfl rfl rfl rfl rfl rfl rfl rfl (fun _ i0=>o_ldO g5 0 rfl f6 i0 g9 rfl rfl rfl rfl rfl fun _ i1=>obk p fun _ i2 p=>ca okf157 rfl (rv (c157 g5 (a.m ((((A.t T).t b0).t e2).t f4)) (RepV.ofInt _ _) g8 i1 i2) fun _ _ _ i3 i4 i5=>nf ?_)) rfl)))) rfl))))
 have i6:=(Inv.front i4 1 rfl)
 refine obk p fun _ i7 p=>ca okf155 rfl (RVm (c155 i6 (OwnL.mono i3 f6) i5 i7) ?_)
 rintro _ _ ⟨i8,i9,j0,j1,j2,j3,j4⟩
 obtain rfl:=j4.int
 refine nf ?_
 cases p
 exact o_nil (⟨i8,i9,j0,(i3.t j1),(Inv.front (Inv.front (Inv.front (Inv.front j2 3 rfl) 3 rfl) 2 rfl) 3 rfl),j3,hx rfl⟩)
 refine wpC_skip ?_
 cases p
 exact ⟨f1,f2,f3,lr,f9,f6,hx rfl⟩
 rintro s _ ⟨g2,g3,g4,g5,g6,g7,_,rfl⟩
 cases p
 exact bn (nx (rg (o_p 3 rfl (o_nil (nx ⟨_,rfl,⟨g2,g3,g4,(f4.t g5),g6,g7,hx rfl⟩⟩)))))
 refine ex (px ?_)
 cases p
 refine ⟨_,rfl,?_⟩
 rintro rfl
 exact bh (nx (⟨f1,f2,f3,f4,f5,f6,hx rfl⟩))
 rintro s _ ⟨e7,e8,e9,f0,f1,f2,_,rfl⟩
 cases p
 exact bn (nx (rg (o_p 3 rfl (o_nil (nx ⟨_,rfl,⟨e7,e8,e9,(e2.t f0),f1,f2,hx rfl⟩⟩)))))
 refine ex (px ?_)
 cases p
 refine ⟨_,rfl,?_⟩
 rintro rfl
 exact bh (nx (⟨b9,e0,e1,e2,e3,e4,hx rfl⟩))
 rintro s _ ⟨b5,b6,b7,b8,b9,e0,_,rfl⟩
 cases p
 exact bn (nx (rg (o_p 3 rfl (o_nil (nx ⟨_,rfl,⟨b5,b6,b7,(b0.t b8),b9,e0,hx rfl⟩⟩)))))
 refine ex (px ?_)
 cases p
 refine ⟨_,rfl,?_⟩
 rintro rfl
 exact bh (nx (⟨a7,a8,a9,b0,b1,b2,hx rfl⟩))
 rintro s _ ⟨a3,a4,a5,a6,a7,a8,_,rfl⟩
 cases p
 exact nx (rg (o_p 2 rfl (o_nil (bn (nx ⟨_,rfl,⟨a3,a4,a5,(T.t a6),a7,a8,hx rfl⟩⟩)))))
 refine ex (px ?_)
 cases p
 refine ⟨_,rfl,?_⟩
 rintro rfl
 exact bh (nx (⟨_,P,(.slice W O.2.length X),R,rfl,T,U,V,hx rfl⟩))
 rintro s _ ⟨H,J,K,M,rfl,N,O,P,_,rfl⟩
 refine nx (sg (o_p 1 rfl (lt O 3 rfl (o_p 1 rfl (lt O 1 rfl ?_)))))
 obtain ⟨Q,R,rfl⟩:=OwnL.sh P
 refine o_p 1 rfl (obk p fun T U p=>ca okf83 rfl (RVm (c83 O ri ri U) ?_))
 rintro _ _ ⟨V,W,X,Y,Z,a0,a1,a2,a3,a4,a5,a6,rfl⟩
 refine nf (o_alloc a3 rfl rfl rfl zero98 fun a7 _ a8=>nf (st a8 0 rfl rfl (cs:=[it T.letters,W,Y,a0]) rfl (allc rfl (allc (OwnL.oneC a4) (allc (own_one a5) (allc (OwnL.oneC a6) rfl)))) rfl fun _ a9=>nf (en (sq (pg rfl (obk p fun b0 b1 p=>cq (fun s w=>∃ b2 b3 b4 b5 b6 b7 b8,Le V b2∧Inv w b2 ([(a7,blk [it T.letters,b3,b5,a0] 98)]::b4::b6::a1::b8::[(l,blk [b7] 240)]::[(j,blk [it 0,nl,nl,nl] 98)]::[(h,blk [it d0.letters,it d0.states,b,c,d] 36)]::S)∧OwnL 3 b2 b4 b3 b0.1∧OwnN (OwnN (OwnL 3) 24) 136 b2 b6 b5 b0.2.1∧OwnL 96 b2 b8 b7 b0.2.2∧Hx s [(2,pt h),(4,pt j),(6,pt l),(13,pt a7)]) ?_ ?_))))))
 have _:=p
 refine bk (fun (b9 : Int × List Int × List (List (List Int)) × List (List Bool)) s w=>∃ e0 e1 e2 e3 e4 e5 e6,Le V e0∧Inv w e0 ([(a7,blk [it T.letters,e1,e3,a0] 98)]::e2::e4::a1::e6::[(l,blk [e5] 240)]::[(j,blk [it 0,nl,nl,nl] 98)]::[(h,blk [it d0.letters,it d0.states,b,c,d] 36)]::S)∧OwnL 3 e0 e2 e1 b9.2.1∧OwnN (OwnN (OwnL 3) 24) 136 e0 e4 e3 b9.2.2.1∧OwnL 96 e0 e6 e5 b9.2.2.2∧Hx s [(2,pt h),(4,pt j),(6,pt l),(13,pt a7),(14,it b9.1)]) b1 ⟨V,W,X,Y,Z,(.slice Q H.length R),M,lr,a9,a4,a5,(OwnL.mono a2 P),hx rfl⟩ ?_
 clear b1
 rintro b9 _ s _ p ⟨e0,e1,e2,e3,e4,e5,e6,e7,e8,e9,f0,f1,_,rfl⟩
 refine sq (sg (o_p 2 rfl (lt e8 7 rfl (o_p 1 rfl (en (cd p rfl (fun p=>?_) fun p=>?_))))))
 refine sn (sq (wpC_block (sq (wpC_drawI hmTryz e8 (Cl e0 ([(a7,blk [it T.letters,e1,e3,a0] 98)]::e2::e4::a1::[(j,blk [it 0,nl,nl,nl] 98)]::[(h,blk [it d0.letters,it d0.states,b,c,d] 36)]::S)) [(0,.any),(1,.far),(2,.any),(3,.here),(4,.any),(5,.eff true),(6,.eff true),(7,.any),(8,.eff false)] (by kernel_rfl) fun _ f2=>o_p 1 rfl ?_))))
 refine o_ltF (Cl.le ((f2.del 5).del 4) lr) (.S 0 rfl) rfl rfl rfl rfl rfl rfl (o_p 1 rfl (lta f2 7 rfl (cs:=[it d0.letters,it d0.states,b,c,d]) rfl (o_p 1 rfl (obk p fun _ f3 p=>ca okf156 rfl (rv (c156 f2 (a.m (((A.t N).t a2).t e7)) (RepV.ofInt _ _) f3) fun _ _ _ f4 f5 f6=>⟨fun _=>Cl.le ((f5.del 5).del 4) f4,?_⟩)))))
 have f7:=(Inv.front (Inv.front f5 4 rfl) 5 rfl)
 refine obk p fun _ f8 p=>ca okf155 rfl (RVm (c155 f7 (OwnL.mono f4 f1) f6 f8) ?_)
 rintro _ _ ⟨f9,g0,g1,g2,g3,g4,g5⟩
 obtain rfl:=g5.int
 refine ⟨fun _=>Cl.le ((g3.del 1).del 0) (f4.t g2),obk p fun _ g6 p=>o_ixO (OwnL.mono (f4.t g2) e9) g6 rfl rfl rfl rfl rfl rfl rfl rfl (fun _ g7=>o_stO g3 3 rfl (OwnL.mono (f4.t g2) e9) g7 g6 ri rfl rfl rfl rfl rfl rfl rfl fun g8 _ g9 i0=>nf (en (pg rfl (obk p fun i1 i2 p=>cq (fun s w=>∃ i3 i4 i5 i6 i7,Le f9 i3∧Inv w i3 ([(l,blk [i4] 240)]::i5::[(a7,blk [it T.letters,e1,i6,a0] 98)]::g8::i7::a1::[(j,blk [it 0,nl,nl,nl] 98)]::[(h,blk [it d0.letters,it d0.states,b,c,d] 36)]::S)∧OwnL 96 i3 i5 i4 i1.1∧OwnN (OwnN (OwnL 3) 24) 136 i3 i7 i6 i1.2∧Hx s [(2,pt h),(4,pt j),(6,pt l),(13,pt a7),(14,it b9.1)]) ?_ ?_)))) rfl⟩
 have _:=p
 refine bk (fun (i8 : Int × List (List Bool) × List (List (List Int))) s w=>∃ i9 j0 j1 j2 j3,Le f9 i9∧Inv w i9 ([(l,blk [j0] 240)]::j1::[(a7,blk [it T.letters,e1,j2,a0] 98)]::g8::j3::a1::[(j,blk [it 0,nl,nl,nl] 98)]::[(h,blk [it d0.letters,it d0.states,b,c,d] 36)]::S)∧OwnL 96 i9 j1 j0 i8.2.1∧OwnN (OwnN (OwnL 3) 24) 136 i9 j3 j2 i8.2.2∧Hx s [(2,pt h),(4,pt j),(6,pt l),(13,pt a7),(14,it b9.1),(15,it i8.1)]) i2 ⟨f9,g0,g1,e3,e4,lr,i0,g4,(own_mono (f4.t g2) f0),hx rfl⟩ ?_
 clear i2
 rintro i8 _ s _ p ⟨i9,j0,j1,j2,j3,j4,j5,j6,j7,_,rfl⟩
 refine sq (sg (o_p 2 rfl (lt j5 0 rfl ?_)))
 obtain ⟨j8,j9,rfl⟩:=OwnL.sh j6
 refine o_p 2 rfl (en (cd p rfl (fun p=>?_) fun p=>?_))
 refine sn (sq (wpC_block (pg rfl (obk p fun k0 k1 p=>cq (fun s w=>∃ k2 k3 k4 k5 k6,Le i9 k2∧Inv w k2 ([(l,blk [k3] 240)]::k4::[(a7,blk [it T.letters,e1,k5,a0] 98)]::g8::k6::a1::[(j,blk [it 0,nl,nl,nl] 98)]::[(h,blk [it d0.letters,it d0.states,b,c,d] 36)]::S)∧OwnL 96 k2 k4 k3 k0.1∧OwnN (OwnN (OwnL 3) 24) 136 k2 k6 k5 k0.2∧Hx s [(2,pt h),(4,pt j),(6,pt l),(13,pt a7),(14,it b9.1),(15,it i8.1)]) ?_ ?_))))
 have _:=p
 refine bk (fun (k7 : Int × List (List Bool) × List (List (List Int))) s w=>∃ k8 k9 m0 m1 m2,Le i9 k8∧Inv w k8 ([(l,blk [k9] 240)]::m0::[(a7,blk [it T.letters,e1,m1,a0] 98)]::g8::m2::a1::[(j,blk [it 0,nl,nl,nl] 98)]::[(h,blk [it d0.letters,it d0.states,b,c,d] 36)]::S)∧OwnL 96 k8 m0 k9 k7.2.1∧OwnN (OwnN (OwnL 3) 24) 136 k8 m2 m1 k7.2.2∧Hx s [(2,pt h),(4,pt j),(6,pt l),(13,pt a7),(14,it b9.1),(15,it i8.1),(16,it k7.1)]) k1 ⟨i9,(.slice j8 i8.2.1.length j9),j1,j2,j3,lr,j5,j6,j7,hx rfl⟩ ?_
 clear k1
 rintro k7 _ s _ p ⟨k8,k9,m0,m1,m2,m3,m4,m5,m6,_,rfl⟩
 refine sq (sg (o_p 2 rfl (lt m4 0 rfl ?_)))
 obtain ⟨m7,m8,rfl⟩:=OwnL.sh m5
 refine o_p 2 rfl (en (cd p rfl (fun p=>?_) fun p=>?_))
 refine sn (sq (wpC_block (wpC_drawI hmTryz m4 (Cl k8 ([(a7,blk [it T.letters,e1,m1,a0] 98)]::g8::m2::a1::[(j,blk [it 0,nl,nl,nl] 98)]::[(h,blk [it d0.letters,it d0.states,b,c,d] 36)]::S)) [(0,.any),(1,.far),(2,.any),(3,.any),(4,.far),(5,.any),(6,.any),(7,.far),(8,.any),(9,.here),(10,.any),(11,.any),(12,.here),(13,.any),(14,.any),(15,.here),(16,.any),(17,.here),(18,.any),(19,.any),(20,.here),(21,.eff true),(22,.eff true),(23,.any),(24,.eff false)] (by kernel_rfl) fun _ m9=>o_p 1 rfl ?_)))
 refine o_ltF (Cl.le ((m9.del 1).del 0) lr) (.S 0 rfl) rfl rfl rfl rfl rfl rfl (o_p 1 rfl (obk p fun n0 n1 p=>?_))
 obtain ⟨_,_,n2,_,_,n3,n4,n5,n6,n7,_,n8,_⟩:=OwnN.open (Inv.front m9 4 rfl) m6 n1
 refine o_ixO n4 n5 rfl rfl rfl rfl rfl rfl rfl rfl (fun _ n9=>o_ldOF (Cl.le (Inv.front (Inv.front (Inv.front (Inv.front (Inv.front (Inv.front (((Inv.glue (Inv.front (Inv.front (Inv.front n3 2 rfl) 2 rfl) 2 rfl) n7).del 2).del 1) 5 rfl) 5 rfl) 5 rfl) 3 rfl) 5 rfl) 5 rfl) lr) (fun q hq=>⟨_,List.mem_of_getElem? (i:=2) rfl,(n7.mem_iff.2 (List.mem_append_right _ (List.mem_append_left _ hq)))⟩) n4 n9 n5 rfl rfl rfl rfl rfl fun o0 o1=>?_) rfl
 have _:=RepV.raw o1
 subst o0
 refine o_p 1 rfl (obk p fun o2 o3 p=>?_)
 obtain ⟨_,_,_,_,_,o4,o5,o6,o7,o8,_,o9,_⟩:=OwnN.open n3 n6 o3
 refine o_ixO o5 o6 rfl rfl rfl rfl rfl rfl rfl rfl (fun _ p0=>o_ldOF (Cl.le (Inv.front (Inv.front (Inv.front (Inv.front (Inv.front (Inv.front (((Inv.glue (Inv.front (Inv.front (Inv.front (Inv.glue (Inv.front (Inv.front (Inv.front o4 2 rfl) 2 rfl) 2 rfl) o8) 2 rfl) 2 rfl) 2 rfl) n7).del 2).del 1) 5 rfl) 5 rfl) 5 rfl) 3 rfl) 5 rfl) 5 rfl) lr) (fun q hq=>⟨_,List.mem_of_getElem? (i:=2) rfl,(n7.mem_iff.2 (List.mem_append_left _ (o8.mem_iff.2 (List.mem_append_right _ (List.mem_append_left _ hq)))))⟩) o5 p0 o6 rfl rfl rfl rfl rfl fun p1 p2=>?_) rfl
 have _:=RepV.raw p2
 subst p1
 refine o_p 1 rfl (lta o4 11 rfl (cs:=[it d0.letters,it d0.states,b,c,d]) rfl (o_p 2 rfl (lt o4 5 rfl (o_p 1 rfl (obk p fun _ p3 p=>o_ixO m5 p3 rfl rfl rfl rfl rfl rfl rfl rfl (fun _ p4=>o_ldO o4 6 rfl m5 p4 p3 rfl rfl rfl rfl rfl fun _ p5=>o_p 1 rfl (lt o4 5 rfl (o_p 1 rfl (obk p fun _ p6 p=>o_ixO m5 p6 rfl rfl rfl rfl rfl rfl rfl rfl (fun _ p7=>o_ldO o4 6 rfl m5 p7 p6 rfl rfl rfl rfl rfl fun _ p8=>obk p fun _ p9 p=>ca okf157 rfl (rv (c157 o4 (a.m (((((((A.t N).t a2).t e7).t f4).t g2).t j4).t m3)) (RepV.ofInt _ _) p5 p8 p9) fun _ _ _ q0 q1 q2=>⟨fun _=>Cl.le (Inv.front (Inv.front (Inv.front (Inv.front (Inv.front (Inv.front (((Inv.glue (Inv.front (Inv.front (Inv.front (Inv.glue (Inv.front (Inv.front (Inv.front q1 2 rfl) 2 rfl) 2 rfl) o8) 2 rfl) 2 rfl) 2 rfl) n7).del 2).del 1) 5 rfl) 5 rfl) 5 rfl) 3 rfl) 5 rfl) 5 rfl) q0,?_⟩)) rfl)))) rfl)))))
 have q3:=(Inv.front (Inv.front q1 6 rfl) 6 rfl)
 refine obk p fun q4 q5 p=>ca okf155 rfl (RVm (c155 q3 (OwnL.mono q0 m5) q2 q5) ?_)
 rintro _ _ ⟨q6,q7,q8,q9,y0,y1,y2⟩
 obtain rfl:=y2.int
 refine ⟨fun _=>Cl.le (Inv.front (Inv.front (Inv.front (Inv.front (Inv.front (Inv.front (((Inv.glue (Inv.front (Inv.front (Inv.front (Inv.glue (Inv.front (Inv.front (Inv.front y0 4 rfl) 4 rfl) 4 rfl) o8) 4 rfl) 4 rfl) 2 rfl) n7).del 2).del 1) 5 rfl) 5 rfl) 5 rfl) 3 rfl) 5 rfl) 5 rfl) (q0.t q9),obk p fun _ y3 p=>o_ixO (OwnL.mono (q0.t q9) o7) y3 rfl rfl rfl rfl rfl rfl rfl rfl (fun _ y4=>o_stO y0 2 rfl (OwnL.mono (q0.t q9) o7) y4 y3 ri rfl rfl rfl rfl rfl rfl rfl fun _ _ y5 y6=>nf ?_) rfl⟩
 obtain ⟨_,y7,y8⟩:=Inv.close (K:=fun g=>OwnN (OwnL 3) 24 q6 g n2 (n0.set (i8.1 : Int).toNat (o2.set (k7.1 : Int).toNat q4.1))) (Inv.front (Inv.front (Inv.front y6 4 rfl) 4 rfl) 4 rfl) (o9 _ _ _ _ (q0.t q9) (OwnL.mono (q0.t q9) o5) y5)
 obtain ⟨y9,z0,z1⟩:=Inv.close (K:=fun g=>OwnN (OwnN (OwnL 3) 24) 136 q6 g m1 (k7.2.2.set (b9.1 : Int).toNat (n0.set (i8.1 : Int).toNat (o2.set (k7.1 : Int).toNat q4.1)))) (Inv.front (Inv.front (Inv.front y7 4 rfl) 4 rfl) 2 rfl) (n8 _ _ _ _ (q0.t q9) (OwnL.mono (q0.t q9) n4) y8)
 cases p
 exact o_nil (bn (nx (rg (o_p 3 rfl (o_nil (nx ⟨_,rfl,⟨q6,q7,q8,m1,y9,((m3.t q0).t q9),(Inv.front (Inv.front (Inv.front (Inv.front (Inv.front (Inv.front (Inv.front (Inv.front z0 7 rfl) 7 rfl) 7 rfl) 3 rfl) 7 rfl) 7 rfl) 7 rfl) 7 rfl),y1,z1,hx rfl⟩⟩))))))
 refine ex (px ?_)
 cases p
 refine ⟨_,rfl,?_⟩
 rintro rfl
 exact bh (nx (⟨k8,(.slice m7 k7.2.1.length m8),m0,m1,m2,m3,m4,m5,m6,hx rfl⟩))
 rintro s _ ⟨k2,k3,k4,k5,k6,k7,k8,k9,m0,_,rfl⟩
 cases p
 exact bn (nx (rg (o_p 3 rfl (o_nil (nx ⟨_,rfl,⟨k2,k3,k4,k5,k6,(j4.t k7),k8,k9,m0,hx rfl⟩⟩)))))
 refine ex (px ?_)
 cases p
 refine ⟨_,rfl,?_⟩
 rintro rfl
 exact bh (nx (⟨i9,(.slice j8 i8.2.1.length j9),j1,j2,j3,j4,j5,j6,j7,hx rfl⟩))
 rintro s _ ⟨i3,i4,i5,i6,i7,i8,i9,j0,j1,_,rfl⟩
 cases p
 exact bn (nx (rg (o_p 3 rfl (o_nil (nx ⟨_,rfl,⟨i3,e1,g8,i6,i7,i4,i5,(((e7.t f4).t g2).t i8),(Inv.front (Inv.front (Inv.front (Inv.front (Inv.front (Inv.front (Inv.front (Inv.front i9 7 rfl) 7 rfl) 2 rfl) 3 rfl) 7 rfl) 7 rfl) 7 rfl) 7 rfl),(OwnL.mono i8 g9),j1,j0,hx rfl⟩⟩)))))
 refine ex (px ?_)
 cases p
 refine ⟨_,rfl,?_⟩
 rintro rfl
 exact bh (nx (⟨e0,e1,e2,e3,e4,e5,e6,e7,e8,e9,f0,f1,hx rfl⟩))
 rintro s _ ⟨b2,b3,b4,b5,b6,b7,b8,b9,e0,e1,e2,e3,_,rfl⟩
 refine nx (sq (pg rfl (obk p fun e4 e5 p=>cq (fun s w=>∃ e6 e7 e8,Le b2 e6∧Inv w e6 ([(a7,blk [it T.letters,b3,b5,e7] 98)]::b4::b6::e8::b8::[(l,blk [b7] 240)]::[(j,blk [it 0,nl,nl,nl] 98)]::[(h,blk [it d0.letters,it d0.states,b,c,d] 36)]::S)∧OwnL 4 e6 e8 e7 e4∧Hx s [(4,pt j),(13,pt a7)]) ?_ ?_)))
 have _:=p
 refine bk (fun (e9 : Int × List Bool) s w=>∃ f0 f1 f2,Le b2 f0∧Inv w f0 ([(a7,blk [it T.letters,b3,b5,f1] 98)]::b4::b6::f2::b8::[(l,blk [b7] 240)]::[(j,blk [it 0,nl,nl,nl] 98)]::[(h,blk [it d0.letters,it d0.states,b,c,d] 36)]::S)∧OwnL 4 f0 f2 f1 e9.2∧Hx s [(2,pt h),(4,pt j),(6,pt l),(13,pt a7),(17,it e9.1)]) e5 ⟨b2,a0,a1,lr,e0,(OwnL.mono b9 a6),hx rfl⟩ ?_
 clear e5
 rintro e9 _ s _ p ⟨f0,f1,f2,f3,f4,f5,_,rfl⟩
 refine sq (sg (o_p 2 rfl (lt f4 5 rfl ?_)))
 obtain ⟨f6,f7,rfl⟩:=OwnL.sh e3
 refine o_p 2 rfl (en (cd p rfl (fun p=>?_) fun p=>?_))
 refine sn (sq (wpC_block (wpC_drawI hmTryz f4 (Cl f0 ([(a7,blk [it T.letters,b3,b5,f1] 98)]::b4::b6::f2::b8::[(l,blk [(.slice f6 b0.2.2.length f7)] 240)]::[(j,blk [it 0,nl,nl,nl] 98)]::[(h,blk [it d0.letters,it d0.states,b,c,d] 36)]::S)) [(0,.any),(1,.far),(2,.any),(3,.any),(4,.here),(5,.any),(6,.any),(7,.here),(8,.any),(9,.here),(10,.eff true),(11,.any),(12,.eff false)] (by kernel_rfl) fun _ f8=>o_p 1 rfl ?_)))
 refine o_ltF (Cl.le f8 lr) (.S 0 rfl) rfl rfl rfl rfl rfl rfl (o_p 2 rfl (lt f8 5 rfl (o_p 1 rfl (obk p fun _ f9 p=>o_ixO (OwnL.mono f3 e3) f9 rfl rfl rfl rfl rfl rfl rfl rfl (fun _ g0=>o_ldO f8 4 rfl (OwnL.mono f3 e3) g0 f9 rfl rfl rfl rfl rfl fun _ g1=>o_p 1 rfl (lt f8 7 rfl (obk p fun _ g2 p=>ca okf158 rfl (rvb (c158 f8 g1 (f.m ((((A.t N).t a2).t b9).t f3)) g2) fun _ g3 g4 g5=>⟨fun _=>Cl.le g5 g4,obk p fun _ g6 p=>o_ixO (OwnL.mono g4 f5) g6 rfl rfl rfl rfl rfl rfl rfl rfl (fun _ g7=>o_stO g5 3 rfl (OwnL.mono g4 f5) g7 g6 rb rfl rfl rfl rfl rfl rfl rfl fun g8 _ g9 i0=>nf ?_) rfl⟩)))) rfl))))
 cases p
 exact o_nil (bn (nx (rg (o_p 3 rfl (o_nil (nx ⟨_,rfl,⟨g3,f1,g8,(f3.t g4),i0,g9,hx rfl⟩⟩))))))
 refine ex (px ?_)
 cases p
 refine ⟨_,rfl,?_⟩
 rintro rfl
 exact bh (nx (⟨f0,f1,f2,f3,f4,f5,hx rfl⟩))
 rintro s _ ⟨e6,e7,e8,e9,f0,f1,_,rfl⟩
 refine nx (sg (lta f0 0 rfl (cs:=[it T.letters,b3,b5,e7]) rfl (st f0 6 rfl rfl (cs:=[it T.letters,b3,b5,e7]) rfl (allc rfl (allc (OwnL.oneC e1) (allc (own_one e2) (allc (OwnL.oneC f1) rfl)))) rfl fun _ f2=>nf (o_p 1 rfl (en (rt ?_))))))
 obtain ⟨_,f3,f4,f5⟩:=Inv.frz f2 1 rfl (OwnL.mono e9 e1)
 obtain ⟨_,f6,f7,f8⟩:=Inv.frzE f4 1 rfl (own_mono (e9.t f3) e2)
 obtain ⟨_,f9,g0,g1⟩:=Inv.frz f7 1 rfl (OwnL.mono (f3.t f6) f1)
 cases p
 exact ⟨_,⟨_,RdC.mk g0 (.S 3 rfl) rfl rfl,rfl⟩,Rt2.mk (((((((A.t N).t a2).t b9).t e9).t f3).t f6).t f9) (((((g0.del 4).del 3).del 2).del 1).del 0) (TableR.pk (⟨T.letters,b0.1,b0.2.1,e4⟩ : TableR) (f5.m (f6.t f9)) (f8.m f9) g1) rb⟩
theorem c73 {bmut : Nat} {u4m u5m u6m : Value} {x0m : Int} {x1m : Int} {x4m : Int → Option part} {x5m : Int → part → part → Option part} {x6m : part → Option Bool} (I : Inv w G ([(bmut, blk [.int .i64 x0m, .int .i64 x1m, .map none, .slice none 0 0, u4m, u5m, u6m] 132)] :: S)) {r : Option machine} (hm4 : RepV G u4m x4m) (hm5 : RepV G u5m x5m) (hm6 : RepV G u6m x6m) (p : t_builder_build x0m x1m x4m x5m x6m = some r) :
 Calls Tryz.prog 73 #[.pointer (some ⟨bmut, 0, none⟩)] w (RV (Rt G S r)) := by
 refine nt (n:=197) 2 [_] (h:=rfl) (res1 rfl) fun _=>pg rfl (sg (o_p 1 rfl ?_))
 refine o_mkmap (k:=124) part Int I rfl rfl rfl fun a b _ c d=>nf ?_
 refine o_p 2 rfl ?_
 refine st d 1 rfl rfl (cs:=[a]) (oneC_cells (OwnM.oneC c)) (allc (OwnM.oneC c) rfl) rfl fun _ f=>nf ?_
 refine en (sg (o_p 3 rfl (lt f 1 rfl ?_)))
 refine o_bld (cs:=[(0,[it x0m])]) (res:=[it x0m,nl,nl,nl]) rfl rfl rfl zero135 (by exact ⟨rfl,rfl,trivial⟩) rfl rfl rfl ?_ rfl
 refine o_box f rfl rfl rfl (cs:=[it x0m,nl,nl,nl]) rfl fun h _ i=>nf ?_
 refine o_p 1 rfl (en (sq (sg (o_p 3 rfl (lt i 2 rfl (o_p 1 rfl (en ?_)))))))
 have j:=Inv.newNil i
 have k:=Inv.newNil j
 refine obk p fun l m p=>?_
 refine cq (fun s w=>∃ n o t u v x y,Le G n∧Inv w n (y::t::[(h,blk [it x0m,nl,o,nl] 135)]::v::[(bmut,blk [it x0m,it x1m,u,x,u4m,u5m,u6m] 132)]::S)∧OwnL 3 n t o l.1∧OwnM Tryz.prog 124 v u l.2.1∧OwnL 124 n y x l.2.2∧Hx s [(0,pt bmut),(3,pt h)]) ?_ ?_
 have _:=p
 refine bk (fun (z : Int × List Int × Mp part × List part) s w=>∃ A B C D F H J,Le G A∧Inv w A (J::C::[(h,blk [it x0m,nl,B,nl] 135)]::F::[(bmut,blk [it x0m,it x1m,D,H,u4m,u5m,u6m] 132)]::S)∧OwnL 3 A C B z.2.1∧OwnM Tryz.prog 124 F D z.2.2.1∧OwnL 124 A J H z.2.2.2∧Hx s [(0,pt bmut),(3,pt h),(28,it x0m),(29,it z.1)]) m ⟨G,nl,[],a,b,nl,[],lr,k,(OwnL.nil (α:=Int) (G:=G) 3),c,(OwnL.nil (α:=part) (G:=G) 124),hx rfl⟩ ?_
 clear m
 rintro z _ s _ p ⟨A,B,C,D,F,H,J,K,M,N,O,P,_,rfl⟩
 refine pg rfl (sq (cd p rfl (fun p=>?_) fun p=>?_))
 refine sn (sq ?_)
 refine wpC_block ?_
 refine pg rfl (sg (o_p 4 rfl (lt M 4 rfl (o_p 1 rfl (obk p fun _ Q p=>?_)))))
 obtain ⟨_,_,_,rfl,R,T⟩:=Fn1.out hm4
 refine o_callv rfl rfl rfl rfl R rfl rfl (RVm (T _ K _ _ _ _ _ M ri Q) ?_)
 rintro _ _ ⟨_,U,V,W⟩
 have X:=W
 obtain rfl:=part.unp W
 refine nf ?_
 have Y:=(Inv.front (Inv.front V 3 rfl) 4 rfl)
 refine obk p fun Z a0 p=>?_
 refine ca okf125 rfl (RVm (c125 Y O (OwnL.mono U P) X a0) ?_)
 rintro _ _ ⟨a1,a2,a3,a4,a5,a6,a7,a8,a9,b0⟩
 obtain rfl:=b0.int
 refine nf (o_p 1 rfl (en (rg (o_p 4 rfl (lt a7 4 rfl (o_p 1 rfl ?_))))))
 refine o_bs (l:=[Z.1]) (vs:=[it Z.1]) a7 ⟨ri,trivial⟩ rfl rfl rfl ⟨rfl,rfl,trivial⟩ rfl elk3 rfl rfl rfl fun _ _ _ _ b1 b2=>nf ?_
 refine obk p fun _ b3 p=>?_
 refine o_app b2 4 rfl (OwnL.mono (U.t a6) N) (Lies.ofOwn b1 0 rfl) b3 rfl rfl rfl rfl rfl rfl elk3 rfl rfl rfl rfl fun b4 b5 _ b6 b7=>nf ?_
 refine o_p 2 rfl ?_
 refine st b7 5 rfl rfl (cs:=[b4]) (oneC_cells (OwnL.oneC b6)) (allc (OwnL.oneC b6) rfl) rfl fun _ b8=>nf ?_
 cases p
 exact o_nil (bn (nx (rg (o_p 2 rfl (o_nil (nx ⟨_,rfl,⟨a1,b4,b5,a2,a3,a4,a5,((K.t U).t a6),(Inv.front (Inv.front (Inv.front (Inv.front (Inv.front (b8.del 0) 0 rfl) 1 rfl) 4 rfl) 4 rfl) 4 rfl),b6,a8,a9,hx rfl⟩⟩))))))
 refine ex (px ?_)
 cases p
 refine ⟨_,rfl,?_⟩
 rintro rfl
 exact bh (nx (⟨A,B,C,D,F,H,J,K,M,N,O,P,hx rfl⟩))
 rintro s _ ⟨n,o,t,u,v,x,y,z,A,B,C,D,_,rfl⟩
 refine nx (sq (pg rfl ?_))
 have F:=Inv.newNil A
 refine obk p fun H J p=>?_
 refine cq (fun s w=>∃ K : List (List (List Int)) × Mp part × List part,∃ M N O P Q R T,H = .inl K∧Le n M∧Inv w M (O::T::t::[(h,blk [it x0m,nl,o,N] 135)]::Q::[(bmut,blk [it x0m,it x1m,P,R,u4m,u5m,u6m] 132)]::S)∧OwnN (OwnL 24) 136 M O N K.1∧OwnM Tryz.prog 124 Q P K.2.1∧OwnL 124 M T R K.2.2∧Hx s [(0,pt bmut),(3,pt h)]) ?_ ?_
 have U:=p
 refine bk (fun (V : Int × List (List (List Int)) × Mp part × List part) s w=>∃ W X Y Z a0 a1 a2,Le n W∧Inv w W (Y::a2::t::[(h,blk [it x0m,nl,o,X] 135)]::a0::[(bmut,blk [it x0m,it x1m,Z,a1,u4m,u5m,u6m] 132)]::S)∧OwnN (OwnL 24) 136 W Y X V.2.1∧OwnM Tryz.prog 124 a0 Z V.2.2.1∧OwnL 124 W a2 a1 V.2.2.2∧Hx s [(0,pt bmut),(3,pt h),(6,it V.1)]) J ⟨n,nl,[],u,v,x,y,lr,F,(OwnN.nil (α:=List (List Int)) (Ev:=OwnL 24) (G:=n) 136),C,D,hx rfl⟩ ?_
 clear J
 rintro V _ s _ p ⟨W,X,Y,Z,a0,a1,a2,a3,a4,a5,a6,a7,_,rfl⟩
 refine sq (sg (o_p 4 rfl (lt a4 5 rfl ?_)))
 obtain ⟨a8,a9,rfl⟩:=OwnL.sh a7
 refine o_p 2 rfl (en (cd p rfl (fun p=>?_) fun p=>?_))
 refine sn ?_
 refine wpC_block ?_
 refine sq (sq ?_)
 refine wpC_drawI hmTryz a4 (Cl W S) [(0,.any),(1,.any),(2,.any),(3,.here),(4,.any),(5,.any),(6,.any),(7,.any),(8,.any),(9,.here),(10,.any),(11,.any),(12,.any),(13,.any),(14,.here),(15,.any),(16,.any)] (by kernel_rfl) fun _ b0=>?_
 refine o_p 3 rfl (lt b0 5 rfl (o_p 2 rfl (obk p fun b1 b2 p=>?_)))
 refine oq (fun s w=>Inv w W (Y::a2::t::[(h,blk [it x0m,nl,o,X] 135)]::a0::[(bmut,blk [it x0m,it x1m,Z,(.slice a8 V.2.2.2.length a9),u4m,u5m,u6m] 132)]::S)∧Hx s [(0,pt bmut),(3,pt h),(6,it V.1),(74,.bool b1)]) ?_ ?_
 replace p:=b2
 refine sp 63 p rfl (fun p=>?_) fun p=>?_
 refine o_p 3 rfl (lt b0 5 rfl (o_p 4 rfl (lt b0 5 rfl ?_)))
 cases p
 exact o_p 2 rfl (o_nil (⟨b0,hx rfl⟩))
 cases p
 exact o_p 11 rfl (o_nil (⟨b0,hx rfl⟩))
 rintro s _ ⟨b3,_,rfl⟩
 refine nx (cd p rfl (fun p=>?_) fun p=>?_)
 refine pg rfl (rt (pr (br ?_)))
 cases p
 refine ⟨_,rfl,?_⟩
 rintro rfl
 have p:=U
 cases p
 exact br (pr (pr (Rt.mk (z.t a3) ((((((b3.del 5).del 4).del 3).del 2).del 1).del 0) (RepV.ofNil _))))
 refine sn (sq ?_)
 refine wpC_drawI hmTryz b3 (Cl W S) [(0,.any),(1,.any),(2,.any),(3,.any),(4,.here),(5,.any),(6,.any),(7,.any)] (by kernel_rfl) fun _ b4=>?_
 refine o_p 4 rfl (lt b4 5 rfl (o_p 3 rfl (en (pg rfl (sq (pg rfl (obk p fun b5 b6 p=>?_)))))))
 refine cq (fun s w=>∃ b7 b8 b9 e0 e1 e2 e3,Le W b7∧Inv w b7 (b9::e3::t::[(h,blk [it x0m,nl,o,b8] 135)]::e1::[(bmut,blk [it x0m,it x1m,e0,e2,u4m,u5m,u6m] 132)]::S)∧OwnN (OwnL 24) 136 b7 b9 b8 b5.1∧OwnM Tryz.prog 124 e1 e0 b5.2.1∧OwnL 124 b7 e3 e2 b5.2.2∧Hx s [(0,pt bmut),(3,pt h),(6,it (V.2.2.2.length : Int)),(7,it V.1),(8,it (V.2.2.2.length : Int))]) ?_ ?_
 have _:=p
 refine bk (fun (e4 : Int × List (List (List Int)) × Mp part × List part) s w=>∃ e5 e6 e7 e8 e9 f0 f1,Le W e5∧Inv w e5 (e7::f1::t::[(h,blk [it x0m,nl,o,e6] 135)]::e9::[(bmut,blk [it x0m,it x1m,e8,f0,u4m,u5m,u6m] 132)]::S)∧OwnN (OwnL 24) 136 e5 e7 e6 e4.2.1∧OwnM Tryz.prog 124 e9 e8 e4.2.2.1∧OwnL 124 e5 f1 f0 e4.2.2.2∧Hx s [(0,pt bmut),(3,pt h),(6,it (V.2.2.2.length : Int)),(7,it V.1),(8,it (V.2.2.2.length : Int)),(82,it (V.2.2.2.length : Int)),(83,it e4.1)]) b6 ⟨W,X,Y,Z,a0,(.slice a8 V.2.2.2.length a9),a2,lr,b4,a5,a6,a7,hx rfl⟩ ?_
 clear b6
 rintro e4 _ s _ p ⟨e5,e6,e7,e8,e9,f0,f1,f2,f3,f4,f5,f6,_,rfl⟩
 refine pg rfl (sq (cd p rfl (fun p=>?_) fun p=>?_))
 refine sn (sq ?_)
 refine wpC_block ?_
 refine pg rfl (sq (sg (o_p 4 rfl (lt f3 3 rfl ?_))))
 obtain ⟨f7,f8,rfl⟩:=OwnN.len f4
 refine o_p 2 rfl (en (obk p fun f9 g0 p=>?_))
 refine cq (fun s w=>∃ g1 g2,Inv w e5 (g2::f1::t::[(h,blk [it x0m,nl,o,g1] 135)]::e9::[(bmut,blk [it x0m,it x1m,e8,f0,u4m,u5m,u6m] 132)]::S)∧OwnN (OwnL 24) 136 e5 g2 g1 f9∧Hx s [(0,pt bmut),(3,pt h),(6,it (V.2.2.2.length : Int)),(7,it V.1),(8,it (V.2.2.2.length : Int)),(9,it e4.1),(82,it (V.2.2.2.length : Int)),(83,it e4.1)]) ?_ ?_
 replace p:=g0
 refine cd p rfl (fun p=>?_) fun p=>?_
 refine rg (o_p 4 rfl (lt f3 3 rfl ?_))
 have g3:=Inv.newNil f3
 refine o_bs (l:=[Raw.mk nl]) (vs:=[nl]) g3 ⟨RepV.ofRaw _ (own_one (OwnL.nil (α:=List Int) (G:=e5) 24)),trivial⟩ rfl rfl rfl ⟨rfl,rfl,trivial⟩ rfl elk136 rfl rfl rfl fun g4 g5 g6 _ g7 g8=>nf ?_
 have g9 : OwnN (OwnL 24) 136 e5 ([(g4,blk g6 136)] ++ []) (.slice (some ⟨g4,0,none⟩) 1 g5) [([] : List (List Int))]:=OwnN.one g7 (OwnL.nil (α:=List Int) (G:=e5) 24)
 have i0:=Inv.join (Inv.front (Inv.front g8 1 rfl) 1 rfl)
 refine obk p fun _ i1 p=>?_
 refine o_appN (el:=136) (Inv.front i0 1 rfl) f4 g9 i1 (fun {S' g1' rs1 rs2 rr} hJ hS hO hL hA hK=>o_app hJ 0 hS hO hL hA rfl rfl rfl rfl rfl rfl elk136 rfl rfl rfl rfl hK) fun i2 i3 _ i4 i5=>nf ?_
 refine o_p 2 rfl ?_
 refine st i5 3 rfl rfl (cs:=[i2]) (oneC_cells (own_one i4)) (allc (own_one i4) rfl) rfl fun _ i6=>nf ?_
 cases p
 exact o_nil (⟨i2,i3,i6,i4,hx rfl⟩)
 refine wpC_skip ?_
 cases p
 exact ⟨(.slice f7 e4.2.1.length f8),e7,f3,f4,hx rfl⟩
 rintro s _ ⟨g1,g2,g3,g4,_,rfl⟩
 refine nx (sg (o_p 3 rfl (lt g3 3 rfl (o_p 1 rfl (obk p fun _ g5 p=>?_)))))
 obtain ⟨_,_,_,_,_,g6,g7,g8,g9,_,_,_,i0⟩:=OwnN.open g3 g4 g5
 refine o_ixO g7 g8 rfl rfl rfl rfl rfl rfl rfl rfl (fun _ i1=>?_) rfl
 refine o_ldO g6 1 rfl g7 i1 g8 rfl rfl rfl rfl rfl fun i2 i3=>?_
 have _:=RepV.raw i3
 subst i2
 obtain ⟨_,_,rfl⟩:=OwnL.sh g9
 refine o_p 2 rfl ?_
 obtain ⟨i4,i5,i6⟩:=Inv.close (K:=fun g=>OwnN (OwnL 24) 136 e5 g g1 f9) (Inv.front (Inv.front (Inv.front g6 2 rfl) 2 rfl) 2 rfl) (i0 _ _ _ lr g7 g9)
 refine en (obk p fun i7 i8 p=>?_)
 refine cq (fun s w=>∃ i9 j0 j1 j2 j3 j4 j5,Le e5 i9∧Inv w i9 (j1::j5::t::[(h,blk [it x0m,nl,o,j0] 135)]::j3::[(bmut,blk [it x0m,it x1m,j2,j4,u4m,u5m,u6m] 132)]::S)∧OwnN (OwnL 24) 136 i9 j1 j0 i7.1∧OwnM Tryz.prog 124 j3 j2 i7.2.1∧OwnL 124 i9 j5 j4 i7.2.2∧Hx s [(0,pt bmut),(3,pt h),(6,it (V.2.2.2.length : Int)),(7,it V.1),(8,it (V.2.2.2.length : Int)),(82,it (V.2.2.2.length : Int)),(83,it e4.1)]) ?_ ?_
 have _:=p
 refine bk (fun (j6 : Int × List (List (List Int)) × Mp part × List part) s w=>∃ j7 j8 j9 k0 k1 k2 k3,Le e5 j7∧Inv w j7 (j9::k3::t::[(h,blk [it x0m,nl,o,j8] 135)]::k1::[(bmut,blk [it x0m,it x1m,k0,k2,u4m,u5m,u6m] 132)]::S)∧OwnN (OwnL 24) 136 j7 j9 j8 j6.2.1∧OwnM Tryz.prog 124 k1 k0 j6.2.2.1∧OwnL 124 j7 k3 k2 j6.2.2.2∧Hx s [(0,pt bmut),(3,pt h),(6,it (V.2.2.2.length : Int)),(7,it V.1),(8,it (V.2.2.2.length : Int)),(9,it e4.1),(10,it j6.1),(82,it (V.2.2.2.length : Int)),(83,it e4.1)]) i8 ⟨e5,g1,i4,e8,e9,f0,f1,lr,i5,i6,f5,f6,hx rfl⟩ ?_
 clear i8
 rintro j6 _ s _ p ⟨j7,j8,j9,k0,k1,k2,k3,k4,k5,k6,k7,k8,_,rfl⟩
 refine sq (pg rfl (cd p rfl (fun p=>?_) fun p=>?_))
 refine sn (sq ?_)
 refine wpC_block ?_
 refine sg (o_p 3 rfl (lt k5 5 rfl (obk p fun k9 m0 p=>?_)))
 refine o_mks (z:=(0 : Int)) k5 m0 rfl rfl rfl elk3 zero3 (fun _=>by rfl) rfl rfl rfl rfl fun _ m1 _ m2 m3=>nf ?_
 refine o_p 1 rfl (en (sq (sg (o_p 1 rfl ?_))))
 obtain ⟨m4,m5,rfl⟩:=OwnL.sh m2
 refine o_p 2 rfl (en (obk p fun m6 m7 p=>?_))
 refine cq (fun s w=>∃ m8 m9 n0 n1 n2 n3 n4,Le j7 m8∧Inv w m8 (n0::j9::n4::t::[(h,blk [it x0m,nl,o,j8] 135)]::n2::[(bmut,blk [it x0m,it x1m,n1,n3,u4m,u5m,u6m] 132)]::S)∧OwnL 3 m8 n0 m9 m6.1∧OwnM Tryz.prog 124 n2 n1 m6.2.1∧OwnL 124 m8 n4 n3 m6.2.2∧Hx s [(0,pt bmut),(3,pt h),(6,it (V.2.2.2.length : Int)),(7,it V.1),(8,it (V.2.2.2.length : Int)),(9,it e4.1),(10,it j6.1),(11,m9),(82,it (V.2.2.2.length : Int)),(83,it e4.1)]) ?_ ?_
 have _:=p
 refine bk (fun (n5 : List Int × Int × Mp part × List part) s w=>∃ n6 n7 n8 n9 o0 o1 o2,Le j7 n6∧Inv w n6 (n8::j9::o2::t::[(h,blk [it x0m,nl,o,j8] 135)]::o0::[(bmut,blk [it x0m,it x1m,n9,o1,u4m,u5m,u6m] 132)]::S)∧OwnL 3 n6 n8 n7 n5.1∧OwnM Tryz.prog 124 o0 n9 n5.2.2.1∧OwnL 124 n6 o2 o1 n5.2.2.2∧Hx s [(0,pt bmut),(3,pt h),(6,it (V.2.2.2.length : Int)),(7,it V.1),(8,it (V.2.2.2.length : Int)),(9,it e4.1),(10,it j6.1),(11,n7),(82,it (V.2.2.2.length : Int)),(83,it e4.1),(121,it ((List.replicate k9 (0 : Int)).length : Int)),(122,it n5.2.1)]) m7 ⟨j7,(.slice m4 (List.replicate k9 (0 : Int)).length m5),m1,k0,k1,k2,k3,lr,m3,m2,k7,k8,hx rfl⟩ ?_
 clear m7
 rintro n5 _ s _ p ⟨n6,n7,n8,n9,o0,o1,o2,o3,o4,o5,o6,o7,_,rfl⟩
 refine pg rfl (sq (cd p rfl (fun p=>?_) fun p=>?_))
 refine sn (sq ?_)
 refine wpC_block ?_
 refine pg rfl ?_
 refine wpC_drawI hmTryz o4 (Cl n6 S) [(0,.any),(1,.any),(2,.any),(3,.any),(4,.any),(5,.any),(6,.here),(7,.any),(8,.any),(9,.any),(10,.any),(11,.here),(12,.any),(13,.any),(14,.here),(15,.any),(16,.any),(17,.any),(18,.here),(19,.any),(20,.any),(21,.here),(22,.eff false),(23,.eff false),(24,.any),(25,.eff false)] (by kernel_rfl) fun _ o8=>?_
 refine o_p 6 rfl (lt o8 6 rfl (o_p 4 rfl (lt o8 6 rfl (o_p 1 rfl (obk p fun _ o9 p=>?_)))))
 refine o_ixO o7 o9 rfl rfl rfl rfl rfl rfl rfl rfl (fun _ p0=>?_) rfl
 refine o_ldO o8 2 rfl o7 p0 o9 rfl rfl rfl rfl rfl fun _ p1=>?_
 have p2:=p1
 obtain rfl:=part.unp p1
 refine o_p 3 rfl (lt o8 6 rfl (o_p 1 rfl (obk p fun _ p3 p=>?_)))
 refine o_ixO o7 p3 rfl rfl rfl rfl rfl rfl rfl rfl (fun _ p4=>?_) rfl
 refine o_ldO o8 2 rfl o7 p4 p3 rfl rfl rfl rfl rfl fun _ p5=>?_
 have p6:=p5
 obtain rfl:=part.unp p5
 refine obk p fun _ p7 p=>?_
 obtain ⟨_,_,_,rfl,p8,p9⟩:=Fn3.out hm5
 refine o_callv rfl rfl rfl rfl p8 rfl rfl (RVm (p9 _ ((((z.t a3).t f2).t k4).t o3) _ _ _ _ _ _ _ _ _ o8 ri p2 p6 p7) ?_)
 rintro _ _ ⟨_,q0,q1,q2⟩
 have q3:=q2
 obtain rfl:=part.unp q2
 refine nf ?_
 have q4:=(Inv.front (Inv.front (Inv.front q1 2 rfl) 5 rfl) 6 rfl)
 refine obk p fun _ q5 p=>?_
 refine ca okf125 rfl (RVm (c125 q4 o6 (OwnL.mono q0 o7) q3 q5) ?_)
 rintro _ _ ⟨q6,q7,q8,q9,y0,y1,y2,y3,y4,y5⟩
 obtain rfl:=y5.int
 refine nf (obk p fun _ y6 p=>?_)
 refine o_ixO (OwnL.mono (q0.t y1) o5) y6 rfl rfl rfl rfl rfl rfl rfl rfl (fun _ y7=>?_) rfl
 refine o_stO y2 3 rfl (OwnL.mono (q0.t y1) o5) y7 y6 ri rfl rfl rfl rfl rfl rfl rfl fun y8 _ y9 z0=>nf ?_
 cases p
 exact o_nil (bn (nx (rg (o_p 2 rfl (o_nil (nx ⟨_,rfl,⟨q6,n7,y8,q7,q8,q9,y0,((o3.t q0).t y1),(Inv.front (Inv.front (Inv.front (Inv.front (Inv.front (Inv.front (Inv.front z0 0 rfl) 1 rfl) 6 rfl) 6 rfl) 4 rfl) 6 rfl) 6 rfl),y9,y3,y4,hx rfl⟩⟩))))))
 refine ex (px ?_)
 cases p
 refine ⟨_,rfl,?_⟩
 rintro rfl
 exact bh (nx (⟨n6,n7,n8,n9,o0,o1,o2,o3,o4,o5,o6,o7,hx rfl⟩))
 rintro s _ ⟨m8,m9,n0,n1,n2,n3,n4,n5,n6,n7,n8,n9,_,rfl⟩
 refine nx (obk p fun _ o0 p=>?_)
 obtain ⟨o1,_,_,_,o2,o3,o4,o5,o6,_,o7,_,_⟩:=OwnN.open (Inv.front n6 1 rfl) (own_mono n5 k6) o0
 refine wpC_drawI hmTryz o3 (Cl m8 (o1::o2::n4::t::[(h,blk [it x0m,nl,o,j8] 135)]::n2::[(bmut,blk [it x0m,it x1m,n1,n3,u4m,u5m,u6m] 132)]::S)) [(0,.any),(1,.any),(2,.any),(3,.far),(4,.any),(5,.any),(6,.any),(7,.any),(8,.far),(9,.any),(10,.any),(11,.far),(12,.any),(13,.eff true),(14,.eff true),(15,.any),(16,.eff false)] (by kernel_rfl) fun _ o8=>?_
 refine o_p 3 rfl ?_
 refine o_ltF (Cl.le ((o8.del 3).del 0) lr) (.S 4 rfl) rfl rfl rfl rfl rfl rfl ?_
 refine o_p 4 rfl ?_
 refine o_ltF (Cl.le ((o8.del 3).del 0) lr) (.S 4 rfl) rfl rfl rfl rfl rfl rfl ?_
 refine o_p 1 rfl ?_
 refine o_ixO o4 o5 rfl rfl rfl rfl rfl rfl rfl rfl (fun _ o9=>?_) rfl
 refine o_ldOF (Cl.le ((o8.del 3).del 0) lr) (fun q hq=>⟨_,List.mem_of_getElem? (i:=0) rfl,hq⟩) o4 o9 o5 rfl rfl rfl rfl rfl fun p0 p1=>?_
 have _:=RepV.raw p1
 subst p0
 refine o_p 1 rfl ?_
 obtain ⟨p2,p3,p4,p5⟩:=Inv.frz o8 3 rfl n7
 refine o_bs (l:=[m6.1]) (vs:=[m9]) p4 ⟨p5,trivial⟩ rfl rfl rfl ⟨rfl,rfl,trivial⟩ rfl elk24 rfl rfl rfl fun _ _ _ _ p6 p7=>⟨fun _=>Cl.le ((p7.del 1).del 0) p3,?_⟩
 refine obk p fun p8 p9 p=>?_
 refine o_app p7 1 rfl (OwnL.mono p3 o6) (Lies.ofOwn p6 0 rfl) p9 rfl rfl rfl rfl rfl rfl elk24 rfl rfl rfl rfl fun _ _ _ q0 q1=>⟨fun _=>Cl.le ((q1.del 1).del 0) p3,?_⟩
 refine o_ixO (OwnL.mono p3 o4) o5 rfl rfl rfl rfl rfl rfl rfl rfl (fun _ q2=>?_) rfl
 refine o_stO q1 2 rfl (OwnL.mono p3 o4) q2 o5 (RepV.ofRaw _ (own_one q0)) rfl rfl rfl rfl rfl rfl rfl fun _ _ q3 q4=>nf ?_
 obtain ⟨q5,q6,q7⟩:=Inv.close (K:=fun g=>OwnN (OwnL 24) 136 p2 g j8 (j6.2.1.set (e4.1 : Int).toNat p8)) (Inv.front (Inv.front (Inv.front q4 3 rfl) 3 rfl) 3 rfl) (o7 _ _ _ _ _ p3 q3 q0)
 cases p
 exact o_nil (bn (nx (rg (o_p 3 rfl (o_nil (nx ⟨_,rfl,⟨p2,j8,q5,n1,n2,n3,n4,((k4.t n5).t p3),(q6.del 1),q7,n8,(OwnL.mono p3 n9),hx rfl⟩⟩))))))
 refine ex (px ?_)
 cases p
 refine ⟨_,rfl,?_⟩
 rintro rfl
 exact bh (nx (⟨j7,j8,j9,k0,k1,k2,k3,k4,k5,k6,k7,k8,hx rfl⟩))
 rintro s _ ⟨i9,j0,j1,j2,j3,j4,j5,j6,j7,j8,j9,k0,_,rfl⟩
 cases p
 exact bn (nx (rg (o_p 2 rfl (o_nil (nx ⟨_,rfl,⟨i9,j0,j1,j2,j3,j4,j5,(f2.t j6),j7,j8,j9,k0,hx rfl⟩⟩)))))
 refine ex (px ?_)
 cases p
 refine ⟨_,rfl,?_⟩
 rintro rfl
 exact bh (nx (⟨e5,e6,e7,e8,e9,f0,f1,f2,f3,f4,f5,f6,hx rfl⟩))
 rintro s _ ⟨b7,b8,b9,e0,e1,e2,e3,e4,e5,e6,e7,e8,_,rfl⟩
 refine nx (pg rfl (cd p rfl (fun p=>?_) fun p=>?_))
 refine ex (bm rfl ?_)
 cases p
 refine ⟨_,rfl,?_⟩
 rintro rfl
 exact bh (nx (⟨_,b7,b8,b9,e0,e1,e2,e3,rfl,(a3.t e4),e5,e6,e7,e8,hx rfl⟩))
 refine wpC_skip ?_
 cases p
 exact bn (nx ⟨_,rfl,⟨b7,b8,b9,e0,e1,e2,e3,(a3.t e4),e5,e6,e7,e8,hx rfl⟩⟩)
 refine ex (px ?_)
 cases p
 refine ⟨_,rfl,?_⟩
 rintro rfl
 exact bh (nx (⟨_,W,X,Y,Z,a0,(.slice a8 V.2.2.2.length a9),a2,rfl,a3,a4,a5,a6,a7,hx rfl⟩))
 rintro s _ ⟨K,M,N,O,P,Q,R,T,rfl,U,V,W,_,X,_,rfl⟩
 refine nx (sq (sg (o_p 3 rfl (lt V 5 rfl ?_))))
 obtain ⟨Y,Z,rfl⟩:=OwnL.sh X
 refine o_p 2 rfl (en ?_)
 have a0:=Inv.newNil V
 refine obk p fun a1 a2 p=>?_
 refine cq (fun s w=>∃ a3 a4 a5,Le M a3∧Inv w a3 (a5::O::T::t::[(h,blk [it x0m,a4,o,N] 135)]::Q::[(bmut,blk [it x0m,it x1m,P,(.slice Y K.2.2.length Z),u4m,u5m,u6m] 132)]::S)∧OwnL 4 a3 a5 a4 a1∧Hx s [(3,pt h)]) ?_ ?_
 have _:=p
 refine bk (fun (a6 : Int × List Bool) s w=>∃ a7 a8 a9,Le M a7∧Inv w a7 (a9::O::T::t::[(h,blk [it x0m,a8,o,N] 135)]::Q::[(bmut,blk [it x0m,it x1m,P,(.slice Y K.2.2.length Z),u4m,u5m,u6m] 132)]::S)∧OwnL 4 a7 a9 a8 a6.2∧Hx s [(0,pt bmut),(3,pt h),(174,(.slice Y K.2.2.length Z)),(175,it (K.2.2.length : Int)),(176,it a6.1)]) a2 ⟨M,nl,[],lr,a0,(OwnL.nil (α:=Bool) (G:=M) 4),hx rfl⟩ ?_
 clear a2
 rintro a6 _ s _ p ⟨a7,a8,a9,b0,b1,b2,_,rfl⟩
 refine pg rfl (sq (cd p rfl (fun p=>?_) fun p=>?_))
 refine sn (sq ?_)
 refine wpC_block ?_
 refine sg (obk p fun b3 b4 p=>?_)
 refine o_ixO (OwnL.mono b0 X) b4 rfl rfl rfl rfl rfl rfl rfl rfl (fun _ b5=>?_) rfl
 refine o_ldO b1 2 rfl (OwnL.mono b0 X) b5 b4 rfl rfl rfl rfl rfl fun _ b6=>?_
 have b7:=b6
 obtain rfl:=part.unp b6
 refine o_alloc b1 rfl rfl rfl zero124 fun b8 _ b9=>nf ?_
 refine st b9 0 rfl rfl (cs:=[.bool b3.inner,.bool b3.whole]) rfl rfl rfl fun _ e0=>nf ?_
 refine en ?_
 refine wpC_drawI hmTryz e0 (Cl a7 ([(b8,blk [.bool b3.inner,.bool b3.whole] 124)]::a9::O::T::t::[(h,blk [it x0m,a8,o,N] 135)]::Q::[(bmut,blk [it x0m,it x1m,P,(.slice Y K.2.2.length Z),u4m,u5m,u6m] 132)]::S)) [(0,.any),(1,.any),(2,.any),(3,.any),(4,.far),(5,.any),(6,.any),(7,.any),(8,.here),(9,.here),(10,.eff true),(11,.eff true),(12,.eff false),(13,.any),(14,.any),(15,.eff false)] (by kernel_rfl) fun _ e1=>?_
 refine o_p 4 rfl ?_
 refine o_ltF (Cl.le e1 lr) (.S 5 rfl) rfl rfl rfl rfl rfl rfl ?_
 refine o_p 3 rfl (lt e1 7 rfl (lta e1 0 rfl (cs:=[.bool b3.inner,.bool b3.whole]) rfl (obk p fun e2 e3 p=>?_)))
 obtain ⟨_,_,_,rfl,e4,e5⟩:=Fn1.out hm6
 refine o_callv rfl rfl rfl rfl e4 rfl rfl (RVm (e5 _ ((z.t U).t b0) _ _ _ _ _ e1 b7 e3) ?_)
 rintro _ _ ⟨e6,e7,e8,e9⟩
 obtain rfl:=e9.bool
 refine ⟨fun _=>Cl.le e8 e7,?_⟩
 refine o_bs (l:=[e2]) (vs:=[.bool e2]) e8 ⟨rb,trivial⟩ rfl rfl rfl ⟨rfl,rfl,trivial⟩ rfl elk4 rfl rfl rfl fun _ _ _ _ f0 f1=>⟨fun _=>Cl.le (f1.del 0) e7,?_⟩
 refine obk p fun _ f2 p=>?_
 refine o_app f1 2 rfl (OwnL.mono e7 b2) (Lies.ofOwn f0 0 rfl) f2 rfl rfl rfl rfl rfl rfl elk4 rfl rfl rfl rfl fun f3 f4 _ f5 f6=>nf ?_
 refine o_p 2 rfl ?_
 refine st f6 6 rfl rfl (cs:=[f3]) (oneC_cells (OwnL.oneC f5)) (allc (OwnL.oneC f5) rfl) rfl fun _ f7=>nf ?_
 cases p
 exact o_nil (bn (nx (rg (o_p 2 rfl (o_nil (nx ⟨_,rfl,⟨e6,f3,f4,(b0.t e7),((f7.del 1).del 0),f5,hx rfl⟩⟩))))))
 refine ex (px ?_)
 cases p
 refine ⟨_,rfl,?_⟩
 rintro rfl
 exact bh (nx (⟨a7,a8,a9,b0,b1,b2,hx rfl⟩))
 rintro s _ ⟨a3,a4,a5,a6,a7,a8,_,rfl⟩
 refine nx (pg rfl (rt ?_))
 obtain ⟨_,a9,b0,b1⟩:=Inv.frz a7 0 rfl a8
 obtain ⟨_,b2,b3,b4⟩:=Inv.frz b0 2 rfl (OwnL.mono ((U.t a6).t a9) B)
 obtain ⟨_,b5,b6,b7⟩:=Inv.frzE b3 0 rfl (own_mono ((a6.t a9).t b2) W)
 obtain ⟨_,b8,b9,e0⟩:=Inv.frzB b6 1 rfl (machine.pk (⟨x0m,a1,l.1,K.1⟩ : machine) (b1.m (b2.t b5)) (b4.m b5) b7) rfl
 cases p
 exact Rt.mk ((((((z.t U).t a6).t a9).t b2).t b5).t b8) (((b9.del 2).del 1).del 0) (RepV.ofPtr e0)
end Go.Lg
