/- Cases of BankTells, each by itself. -/
import Derived.Test.YtnakkaaobhpcjaaBankTellsA
namespace Go.Proofs.Ytnakkaaobhpcjaa
open Go.ChangeShapes Go.WideShapes Go.ChangeAt Go.RowKit Go.Sx
theorem leaf_1318 : T K_1318 := by unfold T; kernel_rfl
theorem leaf_1319 : T K_1319 := by unfold T; kernel_rfl
theorem leaf_1322 : T K_1322 := by unfold T; kernel_rfl
theorem leaf_1326 : T K_1326 := by unfold T; kernel_rfl
theorem leaf_1330 : T K_1330 := by unfold T; kernel_rfl
theorem leaf_1331 : T K_1331 := by unfold T; kernel_rfl
theorem leaf_1333 : T K_1333 := by unfold T; kernel_rfl
theorem leaf_1334 : T K_1334 := by unfold T; kernel_rfl
theorem leaf_1337 : T K_1337 := by unfold T; kernel_rfl
theorem leaf_1338 : T K_1338 := by unfold T; kernel_rfl
theorem leaf_1340 : T K_1340 := by unfold T; kernel_rfl
theorem leaf_1341 : T K_1341 := by unfold T; kernel_rfl
theorem leaf_1347 : T K_1347 := by unfold T; kernel_rfl
theorem leaf_1348 : T K_1348 := by unfold T; kernel_rfl
theorem leaf_1350 : T K_1350 := by unfold T; kernel_rfl
theorem leaf_1351 : T K_1351 := by unfold T; kernel_rfl
theorem leaf_1354 : T K_1354 := by unfold T; kernel_rfl
theorem leaf_1355 : T K_1355 := by unfold T; kernel_rfl
theorem leaf_1357 : T K_1357 := by unfold T; kernel_rfl
theorem leaf_1358 : T K_1358 := by unfold T; kernel_rfl
theorem leaf_1359 : T K_1359 := by unfold T; kernel_rfl
theorem leaf_1361 : T K_1361 := by unfold T; kernel_rfl
theorem leaf_1365 : T K_1365 := by unfold T; kernel_rfl
theorem leaf_1366 : T K_1366 := by unfold T; kernel_rfl
theorem leaf_1368 : T K_1368 := by unfold T; kernel_rfl
theorem leaf_1369 : T K_1369 := by unfold T; kernel_rfl
theorem leaf_1372 : T K_1372 := by unfold T; kernel_rfl
theorem leaf_1373 : T K_1373 := by unfold T; kernel_rfl
theorem leaf_1375 : T K_1375 := by unfold T; kernel_rfl
theorem leaf_1376 : T K_1376 := by unfold T; kernel_rfl
theorem leaf_1377 : V K_1377 := by unfold V; kernel_rfl
theorem leaf_1380 : V K_1380 := by unfold V; kernel_rfl
theorem leaf_1383 : V K_1383 := by unfold V; kernel_rfl
theorem leaf_1384 : V K_1384 := by unfold V; kernel_rfl
theorem leaf_1387 : V K_1387 := by unfold V; kernel_rfl
theorem leaf_1388 : T K_1388 := by unfold T; kernel_rfl
theorem leaf_1391 : V K_1391 := by unfold V; kernel_rfl
theorem leaf_1392 : V K_1392 := by unfold V; kernel_rfl
theorem leaf_1395 : V K_1395 := by unfold V; kernel_rfl
theorem leaf_1396 : V K_1396 := by unfold V; kernel_rfl
theorem leaf_1399 : V K_1399 := by unfold V; kernel_rfl
theorem leaf_1400 : V K_1400 := by unfold V; kernel_rfl
theorem leaf_1403 : V K_1403 := by unfold V; kernel_rfl
theorem leaf_1404 : V K_1404 := by unfold V; kernel_rfl
theorem leaf_1405 : T K_1405 := by unfold T; kernel_rfl
theorem leaf_1408 : V K_1408 := by unfold V; kernel_rfl
theorem leaf_1411 : V K_1411 := by unfold V; kernel_rfl
theorem leaf_1412 : V K_1412 := by unfold V; kernel_rfl
theorem leaf_1415 : V K_1415 := by unfold V; kernel_rfl
theorem leaf_1416 : V K_1416 := by unfold V; kernel_rfl
theorem leaf_1419 : V K_1419 := by unfold V; kernel_rfl
theorem leaf_1420 : T K_1420 := by unfold T; kernel_rfl
theorem leaf_1423 : V K_1423 := by unfold V; kernel_rfl
theorem leaf_1424 : V K_1424 := by unfold V; kernel_rfl
theorem leaf_1427 : V K_1427 := by unfold V; kernel_rfl
theorem leaf_1428 : V K_1428 := by unfold V; kernel_rfl
theorem leaf_1431 : V K_1431 := by unfold V; kernel_rfl
theorem leaf_1432 : V K_1432 := by unfold V; kernel_rfl
theorem leaf_1433 : T K_1433 := by unfold T; kernel_rfl
theorem leaf_1436 : V K_1436 := by unfold V; kernel_rfl
theorem leaf_1439 : V K_1439 := by unfold V; kernel_rfl
theorem leaf_1440 : V K_1440 := by unfold V; kernel_rfl
theorem leaf_1443 : V K_1443 := by unfold V; kernel_rfl
theorem leaf_1444 : V K_1444 := by unfold V; kernel_rfl
theorem leaf_1447 : V K_1447 := by unfold V; kernel_rfl
theorem leaf_1448 : V K_1448 := by unfold V; kernel_rfl
theorem leaf_1451 : V K_1451 := by unfold V; kernel_rfl
theorem leaf_1452 : T K_1452 := by unfold T; kernel_rfl
theorem leaf_1455 : V K_1455 := by unfold V; kernel_rfl
theorem leaf_1456 : V K_1456 := by unfold V; kernel_rfl
theorem leaf_1459 : V K_1459 := by unfold V; kernel_rfl
theorem leaf_1460 : V K_1460 := by unfold V; kernel_rfl
theorem leaf_1461 : T K_1461 := by unfold T; kernel_rfl
theorem leaf_1464 : V K_1464 := by unfold V; kernel_rfl
theorem leaf_1467 : V K_1467 := by unfold V; kernel_rfl
theorem leaf_1468 : V K_1468 := by unfold V; kernel_rfl
theorem leaf_1471 : V K_1471 := by unfold V; kernel_rfl
theorem leaf_1472 : V K_1472 := by unfold V; kernel_rfl
theorem leaf_1475 : V K_1475 := by unfold V; kernel_rfl
theorem leaf_1476 : V K_1476 := by unfold V; kernel_rfl
theorem leaf_1479 : V K_1479 := by unfold V; kernel_rfl
theorem leaf_1480 : V K_1480 := by unfold V; kernel_rfl
theorem leaf_1483 : V K_1483 := by unfold V; kernel_rfl
theorem leaf_1484 : T K_1484 := by unfold T; kernel_rfl
theorem leaf_1487 : V K_1487 := by unfold V; kernel_rfl
theorem leaf_1488 : V K_1488 := by unfold V; kernel_rfl
theorem leaf_1489 : T K_1489 := by unfold T; kernel_rfl
theorem leaf_1492 : V K_1492 := by unfold V; kernel_rfl
theorem leaf_1495 : V K_1495 := by unfold V; kernel_rfl
theorem leaf_1496 : V K_1496 := by unfold V; kernel_rfl
theorem leaf_1499 : V K_1499 := by unfold V; kernel_rfl
theorem leaf_1500 : V K_1500 := by unfold V; kernel_rfl
theorem leaf_1503 : V K_1503 := by unfold V; kernel_rfl
theorem leaf_1504 : V K_1504 := by unfold V; kernel_rfl
theorem leaf_1507 : V K_1507 := by unfold V; kernel_rfl
theorem leaf_1508 : V K_1508 := by unfold V; kernel_rfl
theorem leaf_1511 : V K_1511 := by unfold V; kernel_rfl
theorem leaf_1512 : V K_1512 := by unfold V; kernel_rfl
theorem leaf_1515 : V K_1515 := by unfold V; kernel_rfl
theorem leaf_1516 : T K_1516 := by unfold T; kernel_rfl
theorem leaf_1517 : T K_1517 := by unfold T; kernel_rfl
theorem leaf_1520 : V K_1520 := by unfold V; kernel_rfl
theorem leaf_1523 : V K_1523 := by unfold V; kernel_rfl
theorem leaf_1524 : V K_1524 := by unfold V; kernel_rfl
theorem leaf_1527 : V K_1527 := by unfold V; kernel_rfl
theorem leaf_1528 : V K_1528 := by unfold V; kernel_rfl
theorem leaf_1531 : V K_1531 := by unfold V; kernel_rfl
theorem leaf_1532 : V K_1532 := by unfold V; kernel_rfl
theorem leaf_1535 : V K_1535 := by unfold V; kernel_rfl
theorem leaf_1536 : V K_1536 := by unfold V; kernel_rfl
theorem leaf_1539 : V K_1539 := by unfold V; kernel_rfl
theorem leaf_1540 : V K_1540 := by unfold V; kernel_rfl
theorem leaf_1543 : V K_1543 := by unfold V; kernel_rfl
theorem leaf_1544 : V K_1544 := by unfold V; kernel_rfl
theorem leaf_1545 : T K_1545 := by unfold T; kernel_rfl
theorem leaf_1548 : V K_1548 := by unfold V; kernel_rfl
theorem leaf_1549 : T K_1549 := by unfold T; kernel_rfl
theorem leaf_1552 : V K_1552 := by unfold V; kernel_rfl
theorem leaf_1553 : V K_1553 := by unfold V; kernel_rfl
theorem leaf_1556 : V K_1556 := by unfold V; kernel_rfl
theorem leaf_1557 : V K_1557 := by unfold V; kernel_rfl
theorem leaf_1560 : V K_1560 := by unfold V; kernel_rfl
theorem leaf_1561 : V K_1561 := by unfold V; kernel_rfl
theorem leaf_1564 : V K_1564 := by unfold V; kernel_rfl
theorem leaf_1565 : V K_1565 := by unfold V; kernel_rfl
theorem leaf_1568 : V K_1568 := by unfold V; kernel_rfl
theorem leaf_1569 : V K_1569 := by unfold V; kernel_rfl
theorem leaf_1570 : T K_1570 := by unfold T; kernel_rfl
theorem leaf_1574 : T K_1574 := by unfold T; kernel_rfl
theorem leaf_1576 : T K_1576 := by unfold T; kernel_rfl
theorem leaf_1578 : T K_1578 := by unfold T; kernel_rfl
theorem leaf_1580 : T K_1580 := by unfold T; kernel_rfl
theorem leaf_1582 : T K_1582 := by unfold T; kernel_rfl
theorem leaf_1584 : T K_1584 := by unfold T; kernel_rfl
theorem leaf_1586 : T K_1586 := by unfold T; kernel_rfl
theorem leaf_1587 : V K_1587 := by unfold V; kernel_rfl
theorem leaf_1590 : V K_1590 := by unfold V; kernel_rfl
theorem leaf_1593 : V K_1593 := by unfold V; kernel_rfl
theorem leaf_1594 : V K_1594 := by unfold V; kernel_rfl
theorem leaf_1597 : V K_1597 := by unfold V; kernel_rfl
theorem leaf_1598 : T K_1598 := by unfold T; kernel_rfl
theorem leaf_1601 : V K_1601 := by unfold V; kernel_rfl
theorem leaf_1602 : V K_1602 := by unfold V; kernel_rfl
theorem leaf_1605 : V K_1605 := by unfold V; kernel_rfl
theorem leaf_1606 : V K_1606 := by unfold V; kernel_rfl
theorem leaf_1609 : V K_1609 := by unfold V; kernel_rfl
theorem leaf_1610 : V K_1610 := by unfold V; kernel_rfl
theorem leaf_1613 : V K_1613 := by unfold V; kernel_rfl
theorem leaf_1614 : V K_1614 := by unfold V; kernel_rfl
theorem leaf_1615 : T K_1615 := by unfold T; kernel_rfl
theorem leaf_1618 : V K_1618 := by unfold V; kernel_rfl
theorem leaf_1621 : V K_1621 := by unfold V; kernel_rfl
theorem leaf_1622 : V K_1622 := by unfold V; kernel_rfl
theorem leaf_1625 : V K_1625 := by unfold V; kernel_rfl
theorem leaf_1626 : V K_1626 := by unfold V; kernel_rfl
theorem leaf_1629 : V K_1629 := by unfold V; kernel_rfl
theorem leaf_1630 : T K_1630 := by unfold T; kernel_rfl
theorem leaf_1633 : V K_1633 := by unfold V; kernel_rfl
theorem leaf_1634 : V K_1634 := by unfold V; kernel_rfl
theorem leaf_1637 : V K_1637 := by unfold V; kernel_rfl
theorem leaf_1638 : V K_1638 := by unfold V; kernel_rfl
theorem leaf_1641 : V K_1641 := by unfold V; kernel_rfl
theorem leaf_1642 : V K_1642 := by unfold V; kernel_rfl
theorem leaf_1643 : T K_1643 := by unfold T; kernel_rfl
theorem leaf_1646 : V K_1646 := by unfold V; kernel_rfl
theorem leaf_1649 : V K_1649 := by unfold V; kernel_rfl
theorem leaf_1650 : V K_1650 := by unfold V; kernel_rfl
theorem leaf_1653 : V K_1653 := by unfold V; kernel_rfl
theorem leaf_1654 : V K_1654 := by unfold V; kernel_rfl
theorem leaf_1657 : V K_1657 := by unfold V; kernel_rfl
theorem leaf_1658 : V K_1658 := by unfold V; kernel_rfl
theorem leaf_1661 : V K_1661 := by unfold V; kernel_rfl
theorem leaf_1662 : T K_1662 := by unfold T; kernel_rfl
theorem leaf_1665 : V K_1665 := by unfold V; kernel_rfl
theorem leaf_1666 : V K_1666 := by unfold V; kernel_rfl
theorem leaf_1669 : V K_1669 := by unfold V; kernel_rfl
theorem leaf_1670 : V K_1670 := by unfold V; kernel_rfl
theorem leaf_1671 : T K_1671 := by unfold T; kernel_rfl
theorem leaf_1674 : V K_1674 := by unfold V; kernel_rfl
theorem leaf_1677 : V K_1677 := by unfold V; kernel_rfl
theorem leaf_1678 : V K_1678 := by unfold V; kernel_rfl
theorem leaf_1681 : V K_1681 := by unfold V; kernel_rfl
theorem leaf_1682 : V K_1682 := by unfold V; kernel_rfl
theorem leaf_1685 : V K_1685 := by unfold V; kernel_rfl
theorem leaf_1686 : V K_1686 := by unfold V; kernel_rfl
theorem leaf_1689 : V K_1689 := by unfold V; kernel_rfl
theorem leaf_1690 : V K_1690 := by unfold V; kernel_rfl
theorem leaf_1693 : V K_1693 := by unfold V; kernel_rfl
theorem leaf_1694 : T K_1694 := by unfold T; kernel_rfl
theorem leaf_1697 : V K_1697 := by unfold V; kernel_rfl
theorem leaf_1698 : V K_1698 := by unfold V; kernel_rfl
theorem leaf_1699 : T K_1699 := by unfold T; kernel_rfl
theorem leaf_1702 : V K_1702 := by unfold V; kernel_rfl
theorem leaf_1705 : V K_1705 := by unfold V; kernel_rfl
theorem leaf_1706 : V K_1706 := by unfold V; kernel_rfl
theorem leaf_1709 : V K_1709 := by unfold V; kernel_rfl
theorem leaf_1710 : V K_1710 := by unfold V; kernel_rfl
theorem leaf_1713 : V K_1713 := by unfold V; kernel_rfl
theorem leaf_1714 : V K_1714 := by unfold V; kernel_rfl
theorem leaf_1717 : V K_1717 := by unfold V; kernel_rfl
theorem leaf_1718 : V K_1718 := by unfold V; kernel_rfl
theorem leaf_1721 : V K_1721 := by unfold V; kernel_rfl
theorem leaf_1722 : V K_1722 := by unfold V; kernel_rfl
theorem leaf_1725 : V K_1725 := by unfold V; kernel_rfl
theorem leaf_1726 : T K_1726 := by unfold T; kernel_rfl
theorem leaf_1727 : T K_1727 := by unfold T; kernel_rfl
theorem leaf_1730 : V K_1730 := by unfold V; kernel_rfl
theorem leaf_1733 : V K_1733 := by unfold V; kernel_rfl
theorem leaf_1734 : V K_1734 := by unfold V; kernel_rfl
theorem leaf_1737 : V K_1737 := by unfold V; kernel_rfl
theorem leaf_1738 : V K_1738 := by unfold V; kernel_rfl
theorem leaf_1741 : V K_1741 := by unfold V; kernel_rfl
theorem leaf_1742 : V K_1742 := by unfold V; kernel_rfl
theorem leaf_1745 : V K_1745 := by unfold V; kernel_rfl
theorem leaf_1746 : V K_1746 := by unfold V; kernel_rfl
theorem leaf_1749 : V K_1749 := by unfold V; kernel_rfl
theorem leaf_1750 : V K_1750 := by unfold V; kernel_rfl
theorem leaf_1753 : V K_1753 := by unfold V; kernel_rfl
theorem leaf_1754 : V K_1754 := by unfold V; kernel_rfl
theorem leaf_1755 : T K_1755 := by unfold T; kernel_rfl
theorem leaf_1758 : V K_1758 := by unfold V; kernel_rfl
theorem leaf_1759 : T K_1759 := by unfold T; kernel_rfl
theorem leaf_1762 : V K_1762 := by unfold V; kernel_rfl
theorem leaf_1763 : V K_1763 := by unfold V; kernel_rfl
theorem leaf_1766 : V K_1766 := by unfold V; kernel_rfl
theorem leaf_1767 : V K_1767 := by unfold V; kernel_rfl
theorem leaf_1770 : V K_1770 := by unfold V; kernel_rfl
theorem leaf_1771 : V K_1771 := by unfold V; kernel_rfl
theorem leaf_1774 : V K_1774 := by unfold V; kernel_rfl
theorem leaf_1775 : V K_1775 := by unfold V; kernel_rfl
theorem leaf_1778 : V K_1778 := by unfold V; kernel_rfl
theorem leaf_1779 : V K_1779 := by unfold V; kernel_rfl
theorem leaf_1780 : T K_1780 := by unfold T; kernel_rfl
theorem leaf_1781 : V K_1781 := by unfold V; kernel_rfl
theorem know_11 : X.prove 300 1000 K_11 c_8 = true := by kernel_rfl
theorem know_13 : X.prove 300 1000 K_13 c_9 = true := by kernel_rfl
theorem know_16 : X.prove 300 1000 K_16 c_8 = true := by kernel_rfl
theorem know_18 : X.prove 300 1000 K_18 c_11 = true := by kernel_rfl
theorem know_22 : X.prove 300 1000 K_22 c_8 = true := by kernel_rfl
theorem know_24 : X.prove 300 1000 K_24 c_9 = true := by kernel_rfl
theorem know_27 : X.prove 300 1000 K_27 c_8 = true := by kernel_rfl
theorem know_29 : X.prove 300 1000 K_29 c_14 = true := by kernel_rfl
theorem know_34 : X.prove 300 1000 K_34 c_8 = true := by kernel_rfl
theorem know_36 : X.prove 300 1000 K_36 c_9 = true := by kernel_rfl
theorem know_39 : X.prove 300 1000 K_39 c_8 = true := by kernel_rfl
theorem know_41 : X.prove 300 1000 K_41 c_11 = true := by kernel_rfl
theorem know_45 : X.prove 300 1000 K_45 c_8 = true := by kernel_rfl
theorem know_47 : X.prove 300 1000 K_47 c_9 = true := by kernel_rfl
theorem know_50 : X.prove 300 1000 K_50 c_8 = true := by kernel_rfl
theorem know_52 : X.prove 300 1000 K_52 c_18 = true := by kernel_rfl
theorem know_77 : X.prove 300 1000 K_77 c_27 = true := by kernel_rfl
theorem know_82 : X.prove 300 1000 K_82 c_27 = true := by kernel_rfl
theorem know_87 : X.prove 300 1000 K_87 c_27 = true := by kernel_rfl
theorem know_92 : X.prove 300 1000 K_92 c_27 = true := by kernel_rfl
theorem know_97 : X.prove 300 1000 K_97 c_27 = true := by kernel_rfl
theorem know_102 : X.prove 300 1000 K_102 c_27 = true := by kernel_rfl
theorem know_107 : X.prove 300 1000 K_107 c_27 = true := by kernel_rfl
theorem know_812 : X.prove 300 1000 K_812 c_27 = true := by kernel_rfl
theorem know_817 : X.prove 300 1000 K_817 c_27 = true := by kernel_rfl
theorem know_822 : X.prove 300 1000 K_822 c_27 = true := by kernel_rfl
theorem know_827 : X.prove 300 1000 K_827 c_27 = true := by kernel_rfl
theorem know_832 : X.prove 300 1000 K_832 c_27 = true := by kernel_rfl
theorem know_837 : X.prove 300 1000 K_837 c_27 = true := by kernel_rfl
theorem know_858 : X.prove 300 1000 K_858 c_27 = true := by kernel_rfl
theorem know_1068 : X.prove 300 1000 K_1068 c_62 = true := by kernel_rfl
theorem know_1084 : X.prove 300 1000 K_1084 c_70 = true := by kernel_rfl
theorem know_1112 : X.prove 300 1000 K_1112 c_62 = true := by kernel_rfl
theorem know_1128 : X.prove 300 1000 K_1128 c_70 = true := by kernel_rfl
theorem know_1156 : X.prove 300 1000 K_1156 c_62 = true := by kernel_rfl
theorem know_1172 : X.prove 300 1000 K_1172 c_70 = true := by kernel_rfl
theorem know_1200 : X.prove 300 1000 K_1200 c_62 = true := by kernel_rfl
theorem know_1216 : X.prove 300 1000 K_1216 c_70 = true := by kernel_rfl
theorem know_1244 : X.prove 300 1000 K_1244 c_62 = true := by kernel_rfl
theorem know_1260 : X.prove 300 1000 K_1260 c_70 = true := by kernel_rfl
theorem know_1288 : X.prove 300 1000 K_1288 c_62 = true := by kernel_rfl
theorem know_1304 : X.prove 300 1000 K_1304 c_70 = true := by kernel_rfl
theorem know_1323 : X.prove 300 1000 K_1323 c_27 = true := by kernel_rfl
end Go.Proofs.Ytnakkaaobhpcjaa
